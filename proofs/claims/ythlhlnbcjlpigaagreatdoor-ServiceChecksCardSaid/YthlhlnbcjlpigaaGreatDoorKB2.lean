/- Contracts and lemmas, joined out of smaller texts by a program; no conditions. -/
import Derived.Test.YthlhlnbcjlpigaaGreatDoorKB1
import Derived.KernelRfl
import Derived.Test.YthlhlnbcjlpigaaGreatDoorProg
set_option linter.unusedVariables false
set_option linter.unusedSimpArgs false
set_option maxHeartbeats 400000
set_option maxRecDepth 100000
namespace Go.aU
def ql:List Oper->Nat->Option Oper
 |[],_=>none
 |o::os,n=>if Nat.beq n 0 then some o else ql os (n-1)
theorem jc: ∀(l:List Oper) (n:Nat),ql l n=l[n]?
 |[],n=>by simp[ql]
 |o::os,0=>by simp[ql]
 |o::os,n+1=>by simp[ql,jc os n]
def gvA(all:List Oper)(s:St)(jx:Nat):Option AV:=
 match ql all jx with
 |some o=>match o.dst with
  |some d=>get s.t d
  |none=>none
 |none=>none
def jA(all:List Oper)(s:St)(o:Oper)(K:Bool->Bool->Prop):Prop:=
 match o.guard with
 |none=>K false true
 |some (jx,want)=>match gvA all s jx with
  |some (.d (.v (.bool b)))=>K true (b==want)
  |some (.iff b0 (.d (.v (.bool b))))=>K true (b0&&(b==want))
  |_=>False
theorem o8{all:List Oper}{s:St}{o:Oper}{K:Bool->Bool->Prop}(h:jA all s o K):
  ∃gd g,K gd g/\(gd=false->g=true)/\∀{j0 j a w},Rel j0 s j a w->Region.wanted o (yielded all.toArray a.tmps)=g:=by
 unfold jA at h;split at h
 ·rename_i hg;exact⟨false,true,h,fun _=>rfl,fun _=>by simp[Region.wanted,hg]⟩
 ·rename_i jx want hg;have key: ∀av,gvA all s jx=some av->∀{j0 j a w},Rel j0 s j a w->∃d,((all[jx]?).bind (·.dst))=some d/\d<a.tmps.size/\R w j av (a.tmps.getD d Go.undef):=by
   intro av hav j0 j a w hr;unfold gvA at hav;rw[jc] at hav;split at hav
   ·rename_i o' ho';split at hav
    ·rename_i d hd;have:=hr.tmp d av hav;exact⟨d,by simp[ho',hd],by rw[hr.size];exact this.1,this.2⟩
    ·simp at hav
   ·simp at hav
  split at h
  ·rename_i b hv;refine⟨true,_,h,by simp,fun hr=> ?_⟩;rename_i _ _ a _;obtain⟨d,h1,h2,h3⟩:=key _ hv hr;have h4:=kD h3;rw[(nG h2).2] at h4;simp[Region.wanted,hg,yielded,h1,h2,h4]
  ·rename_i b0 b hv;refine⟨true,_,h,by simp,fun hr=> ?_⟩;rename_i _ _ a _;obtain⟨d,h1,h2,h3⟩:=key _ hv hr;rw[(nG h2).2] at h3;cases h3 with
   |iff hh h0=>
    cases b0 with
    |true=>
     have h4:=kD (hh rfl);simp[Region.wanted,hg,yielded,h1,h2,h4]
    |false=>
     have h4:=h0 rfl;simp[Region.wanted,hg,yielded,h1,h2,h4,Go.undef]
  ·exact h.elim
def oP(gd g:Bool)(av:AV):AV:=match gd with
 |false=>av
 |true=> .iff g av
def vW(dr gd g:Bool)(o:Oper)(s:St)(K:St->Prop)(E:(St->Prop)->Prop):Prop:=
 dr=false/\(match gd with
 |false=>E K
 |true=>(g=true->E K)/\(g=false->K (s.del o.dst)))
def dJ(P:Program)(t:TypeId):Option (List Value):=
 match P.info? t with
 |some i=>match i.zero with
  |some z=>some z.cells.toList
  |none=>none
 |none=>none
def qU(P:Program)(t:TypeId)(s:St)(p v:AV)(K:St->Prop):Prop:=
 match gQ P t with
 |some (_,m)=>jD (cellsOf v)=true/\(cellsOf v).length=m/\(match kV s.σ p (cellsOf v) with
  |some (side,σ')=>side/\K { s with σ:=σ' }
  |none=>False)
 |none=>False
def Oj(neg:Bool)(x:AV)(K:AV->Prop):Prop:=
 match x with
 | .d (.sl _ _ n _)=> ∀b:Bool,(b=true->n=0)->K (.d (.v (.bool (b !=neg))))
 | .ms _ _ _ n=> ∀b:Bool,(b=true->n=0)->K (.d (.v (.bool (b !=neg))))
 | .d (.v (.slice none _ _))=>K (.d (.v (.bool !neg)))
 |_=>False
def dV(P:Program)(t:TypeId):Bool:=match P.underlying t with|some (.slice _)=>true|_=>false
def dS(P:Program)(gd g:Bool)(f:FuncId)(args:List AV)(s:St)(dst:Option Tmp)(K:St->Prop):Prop:= ∃r,(g=true->ay P f args s.σ r)/\K (s.put dst (oP gd g r))
def XS(P:Program)(f:FuncId)(args:List AV)(σ:List aC)(r:AV):Prop:=
 ∀j w vs,aS w j σ->Rs w j args vs->∃v,(callFunc f vs).run P w= .ok (.value v) w/\R w j r v
def aW(P:Program)(f:FuncId)(args:List AV)(s:St)(dst:Option Tmp)(K:St->Prop):Prop:=(CS P f args s.σ fun r σ' X=>K ((s.after σ' X).put dst r))\/∃r,XS P f args s.σ r/\K (s.put dst r)
theorem dS.mk{P:Program}{gd g:Bool}{f:FuncId}{args:List AV}{s:St}{dst:Option Tmp}{K:St->Prop}{r:AV}(h:ay P f args s.σ r)(hK:K (s.put dst (oP gd g r))):dS P gd g f args s dst K:=⟨r,fun _=>h,hK⟩
theorem dS.mk'{P:Program}{gd g:Bool}{f:FuncId}{args:List AV}{s:St}{dst:Option Tmp}{K:St->Prop}(r:AV)(h:g=true->ay P f args s.σ r)(hK:K (s.put dst (oP gd g r))):dS P gd g f args s dst K:=⟨r,h,hK⟩
theorem aW.mk{P:Program}{f:FuncId}{args:List AV}{s:St}{dst:Option Tmp}{K:St->Prop}{r:AV}(h:ay P f args s.σ r)(hK:K (s.put dst r)):aW P f args s dst K:= .inl (h.cs hK)
theorem aW.ext{P:Program}{f:FuncId}{args:List AV}{s:St}{dst:Option Tmp}{K:St->Prop}{r:AV}(h:XS P f args s.σ r)(hK:K (s.put dst r)):aW P f args s dst K:= .inr ⟨r,h,hK⟩
theorem aW.gen{P:Program}{f:FuncId}{args:List AV}{s:St}{dst:Option Tmp}{K:St->Prop}{Q:AV->List aC->List Nat->Prop}(h:CS P f args s.σ Q)(hK: ∀r σ' X,Q r σ' X->K ((s.after σ' X).put dst r)):aW P f args s dst K:= .inl (h.mono hK)
theorem CSg_congr{P:Program}{gd g g':Bool}{f:FuncId}{args args':List AV}{s s':St}{dst:Option Tmp}{K:St->Prop}(hg:g=g')(ha:args=args')(hs:s=s'):dS P gd g f args s dst K=dS P gd g' f args' s' dst K:=by rw[hg,ha,hs]
theorem CSk_congr{P:Program}{f:FuncId}{args args':List AV}{s s':St}{dst:Option Tmp}{K:St->Prop}(ha:args=args')(hs:s=s'):aW P f args s dst K=aW P f args' s' dst K:=by rw[ha,hs]
def YS(P:Program)(b:Nat)(args:List AV)(σ:List aC)(Q:AV->List aC->List Nat->Prop):Prop:=
 ∀(rd:Option Nat) j w vs cb,aS w j σ->Rs w j args vs->j[b]? =some (some cb)->
  ∃fn tmps assign body,(Instr.yield cb vs).run P w= .ok (.round cb fn tmps assign body) w/\RoundIn (FW rd) 0 P cb fn tmps assign body w fun e w'=>
   ∃v r σ' j' X,e= .returned v/\aS w' j' σ'/\R w' j' r v/\Ev j w j' w'/\j.length<=j'.length/\Ag j j' X/\Q r σ' X
theorem YS.mono{P:Program}{b:Nat}{args:List AV}{σ:List aC}{Q Q':AV->List aC->List Nat->Prop}(h:YS P b args σ Q)(hq: ∀r σ' X,Q r σ' X->Q' r σ' X):YS P b args σ Q':=
 fun rd j w vs cb h1 h2 h3=>by
  obtain⟨fn,tmps,CJ,bd,h4,h5⟩:=h rd j w vs cb h1 h2 h3;exact⟨fn,tmps,CJ,bd,h4,h5.mono fun _ _ ⟨v,r,σ',j',X,he,a,b,c,d,e,q⟩=>⟨v,r,σ',j',X,he,a,b,c,d,e,hq _ _ _ q⟩⟩
def YSk(P:Program)(b:Nat)(args:List AV)(s:St)(dst:Option Tmp)(K:St->Prop):Prop:=YS P b args s.σ fun r σ' X=>K ((s.after σ' X).put dst r)
def CSe(P:Program)(g:Bool)(f:FuncId)(args:List AV)(s:St)(dst:Option Tmp)(K:St->Prop):Prop:= ∃r0,(g=true->aW P f args s dst K)/\(g=false->K (s.put dst (.iff false r0)))
def fA(P:Program)(g:Bool)(f:FuncId)(args:List AV)(s:St)(dst:Option Tmp)(K:St->Prop):Prop:=dS P true g f args s dst K\/CSe P g f args s dst K
def YSe(P:Program)(g:Bool)(b:Nat)(args:List AV)(s:St)(dst:Option Tmp)(K:St->Prop):Prop:= ∃r0,(g=true->YSk P b args s dst K)/\(g=false->K (s.put dst (.iff false r0)))
theorem fA.mk{P:Program}{g:Bool}{f:FuncId}{args:List AV}{s:St}{dst:Option Tmp}{K:St->Prop}{r:AV}(h:ay P f args s.σ r)(hK:K (s.put dst (oP true g r))):fA P g f args s dst K:= .inl (dS.mk h hK)
theorem fA.mk'{P:Program}{g:Bool}{f:FuncId}{args:List AV}{s:St}{dst:Option Tmp}{K:St->Prop}(r:AV)(h:g=true->ay P f args s.σ r)(hK:K (s.put dst (oP true g r))):fA P g f args s dst K:= .inl (dS.mk' r h hK)
theorem YSk.gen{P:Program}{b:Nat}{args:List AV}{s:St}{dst:Option Tmp}{K:St->Prop}{Q:AV->List aC->List Nat->Prop}(h:YS P b args s.σ Q)(hK: ∀r σ' X,Q r σ' X->K ((s.after σ' X).put dst r)):YSk P b args s dst K:=h.mono hK
theorem CSm_congr{P:Program}{g g':Bool}{f:FuncId}{args args':List AV}{s s':St}{dst:Option Tmp}{K:St->Prop}(hg:g=g')(ha:args=args')(hs:s=s'):fA P g f args s dst K=fA P g' f args' s' dst K:=by rw[hg,ha,hs]
theorem YSk_congr{P:Program}{b:Nat}{args args':List AV}{s s':St}{dst:Option Tmp}{K:St->Prop}(ha:args=args')(hs:s=s'):YSk P b args s dst K=YSk P b args' s' dst K:=by rw[ha,hs]
theorem YSe_congr{P:Program}{g g':Bool}{b:Nat}{args args':List AV}{s s':St}{dst:Option Tmp}{K:St->Prop}(hg:g=g')(ha:args=args')(hs:s=s'):YSe P g b args s dst K=YSe P g' b args' s' dst K:=by rw[hg,ha,hs]
def Hl:AV->AV
 | .d (.v (.func (.func f) a b))=> .clo (.func f) (a.toList.map fun v=> .d (.v v)) (b.toList.map fun v=> .d (.v v))
 |x=>x
theorem TB{g:Bool}{s:St}{x:Operand}{av:AV}(h:Arg g s x av):Arg g s x (Hl av):=by
 unfold Hl;split
 ·rename_i f a b;intro hg j0 j u w hr;have:=h hg j0 j u w hr;rw[kD this];have key: ∀(c:Array Value) (k:Nat),k<(c.toList.map fun v=>AV.d (.v v)).length->R w j ((c.toList.map fun v=>AV.d (.v v)).getD k .undef) (c.getD k Go.undef):=by
   intro c k hk;simp only[List.length_map,Array.length_toList] at hk;have e:(c.toList.map fun v=>AV.d (.v v)).getD k .undef= .d (.v (c.getD k Go.undef)):=by
    simp[List.getD_eq_getElem?_getD,Array.getD_eq_getD_getElem?,hk]
   rw[e];exact .d (.v _)
  exact .clo a b (by simp) (by simp) (key a) (key b)
 ·exact h
theorem asClo_clo(f:FuncId)(x y:List AV):Hl (.clo (.func f) x y)= .clo (.func f) x y:=rfl
theorem asClo_yld(b:Nat):Hl (.xX b)= .xX b:=rfl
theorem asClo_v(f:FuncId):Hl (.d (.v (.func (.func f) #[] #[])))= .clo (.func f) [] []:=rfl
theorem asClo_v2(f:FuncId)(p q:Value):Hl (.d (.v (.func (.func f) #[] #[p,q])))= .clo (.func f) [] [.d (.v p),.d (.v q)]:=rfl
def UK(P:Program)(dr gd g:Bool)(o:Oper)(s:St)(K:St->Prop):Prop:=
 match o.op with
 | .box t x=>vW dr gd g o s K fun K=>arg true s x fun a=>jD (cellsOf a)=true/\K ((s.newVar (cellsOf a)).put o.dst (.ptr s.σ.length 0))
 | .alloc t=>vW dr gd g o s K fun K=>match dJ P t with
  |some z=>K ((s.newVar (z.map fun v=> .d (.v v))).put o.dst (.ptr s.σ.length 0))
  |none=>False
 | .store t p v=>vW dr gd g o s K fun K=>arg true s p fun p=>arg true s v fun v=>qU P t s p v fun s'=>K (s'.put o.dst .undef)
 | .buildSlice t len ps=>uy g s ps.toList fun parts=>dZ P t len parts fun av=>K (s.put o.dst (oP gd g av))
 | .makeMap t r=>vW dr gd g o s K fun K=>match yH P t with
  |some (d,_)=>(match r with
   |none=>K ((s.after (s.σ++[.mp d [] fun _=> .undef]) []).put o.dst (.mp s.σ.length))
   |some x=>arg true s x fun
    | .d (.v (.int _ _))=>K ((s.after (s.σ++[.mp d [] fun _=> .undef]) []).put o.dst (.mp s.σ.length))
    |_=>False)
  |none=>False
 | .mapUpdate t m k v=>vW dr gd g o s K fun K=>arg true s m fun m=>arg true s k fun k=>arg true s v fun v=>updA P t s.σ m k v fun σ'=>K ((s.after σ' []).put o.dst .undef)
 | .insert t m k v=>vW dr gd g o s K fun K=>arg true s m fun m=>arg true s k fun k=>arg true s v fun v=>updA P t s.σ m k v fun σ'=>K ((s.after σ' []).put o.dst .undef)
 | .mapEntry t m k=>vW dr gd g o s K fun K=>arg true s m fun m=>arg true s k fun k=>entA P t s.σ m k fun r σ'=>K ((s.after σ' []).put o.dst r)
 | .entryStore t m k v=>vW dr gd g o s K fun K=>arg true s m fun m=>arg true s k fun k=>arg true s v fun v=>estA s.σ m k v fun σ'=>K ((s.after σ' []).put o.dst .undef)
 | .range t x=>vW dr gd g o s K fun K=>arg true s x fun m=>aaj P t s.σ m fun b σ'=>K ((s.after σ' [b]).put o.dst (.ptr b 0))
 | .next x false=>vW dr gd g o s K fun K=>arg true s x fun a=>nextA s.σ a fun r σ'=>K ((s.after σ' []).put o.dst r)
 | .makeSlice t l c=>vW dr gd g o s K fun K=>arg true s l fun
  | .d (.v (.int _ l))=>arg true s c fun
   | .d (.v (.int _ c))=>makeA P s.σ t l c fun r σ'=>K ((s.after σ' []).put o.dst r)
   |_=>False
  |_=>False
 | .convert src dst x=>(match lT P dst with
  |some e=>vW dr gd g o s K fun K=>yF P src=true/\arg true s x fun
   | .d (.v (.string b))=>K ((s.after (s.σ++[.arr 1 b.size (strRow b)]) []).put o.dst (.ms s.σ.length 1 0 b.size))
   |_=>False
  |none=>pv P g s (.convert src dst x) fun av=>K (s.put o.dst (oP gd g av)))
 | .binOp op t x y ty=>if dV P t then vW dr gd g o s K fun K=>(match op,y with
   | .eql,.const (.slice none 0 0)=>arg true s x fun a=>Oj false a fun r=>K (s.put o.dst r)
   | .neq,.const (.slice none 0 0)=>arg true s x fun a=>Oj true a fun r=>K (s.put o.dst r)
   |_,_=>False)
  else pv P g s (.binOp op t x y ty) fun av=>K (s.put o.dst (oP gd g av))
 | .call c=>match c.callee with
  | .builtin b=>match b with
   | .append=>(match dr with
    |true=>(match c.args.toList,c.argTypes.toList with
     |[x,y],[t,t']=>arg g s x fun x=>arg g s y fun y=>uf P s.σ t t' x y fun av=>K (s.put o.dst (oP gd g av))
     |_,_=>False)
    |false=>vW false gd g o s K fun K=>(match c.args.toList,c.argTypes.toList with
     |[x,y],[t,t']=>arg true s x fun x=>arg true s y fun y=>CO P s.σ t t' x y fun r σ' X=>K ((s.after σ' X).put o.dst r)
     |_,_=>False))
   | .copy=>vW dr gd g o s K fun K=>(match c.args.toList,c.argTypes.toList with
    |[x,y],[t,t']=>arg true s x fun x=>arg true s y fun y=>copyA P s.σ t x y fun r σ'=>K ((s.after σ' []).put o.dst r)
    |_,_=>False)
   | .clear=>vW dr gd g o s K fun K=>(match c.args.toList,c.argTypes.toList with
    |[x],[t]=>arg true s x fun x=>VN P t s.σ x fun σ'=>K ((s.after σ' []).put o.dst (.eX []))
    |_,_=>False)
   |_=>pv P g s (.call c) fun av=>K (s.put o.dst (oP gd g av))
  | .value f=>arg g s f fun fa=>match Hl fa with
   | .clo (.func fid) first captured=>args g s c.args.toList fun CJ=>
    (match dr with
    |true=>dS P gd g fid (first++(CJ++captured)) s o.dst K
    |false=>match gd with
     |true=>fA P g fid (first++(CJ++captured)) s o.dst K
     |false=>aW P fid (first++(CJ++captured)) s o.dst K)
   | .xX b=>args g s c.args.toList fun CJ=>
    (match dr with
    |true=>False
    |false=>match gd with
     |true=>YSe P g b CJ s o.dst K
     |false=>YSk P b CJ s o.dst K)
   |_=>False
  | .invoke _ _=>False
 |op=>pv P g s op fun av=>K (s.put o.dst (oP gd g av))
def bI(P:Program)(dr:Bool)(all:List Oper):List Oper->St->(St->Prop)->Prop
 |[],s,K=>K s
 |o::os,s,K=>jA all s o fun gd g=>UK P dr gd g o s fun s'=>bI P dr all os s' K
def Rest(P:Program)(dr:Bool)(all os:List Oper)(K:St->Prop)(s:St):Prop:=bI P dr all os s K
theorem YB(P:Program)(dr:Bool)(all:List Oper)(s:St)(K:St->Prop):bI P dr all [] s K=K s:=rfl
theorem U9(P:Program)(dr:Bool)(all os:List Oper)(o:Oper)(s:St)(K:St->Prop):bI P dr all (o::os) s K=jA all s o fun gd g=>UK P dr gd g o s (Rest P dr all os K):=rfl
theorem Rest_mk(P:Program)(dr:Bool)(all os:List Oper)(K:St->Prop)(N:Nat)(t:List (Nat×AV))(σ:List aC)(mv:List Nat):Rest P dr all os K ⟨N,t,σ,mv⟩=bI P dr all os ⟨N,t,σ,mv⟩ K:=rfl
def Runs(P:Program)(o:Oper)(s:St)(K:St->Prop):Prop:=
 ∀(j0:J0) j a w (next:Act->World->Prop) (Q:Exit->Act->World->Prop),Rel j0 s j a w->(∀s' j' a' w',Rel j0 s' j' a' w'->Ev j w j' w'->K s'->next a' w')->o.wpIn (FW j0.rd) 0 P a w next Q
theorem uM{rd:Option Nat}{P:Program}{o:Oper}{a:Act}{w w':World}{next:Act->World->Prop}{Q:Exit->Act->World->Prop}{r:Next}(hd: ∀c,o.op≠.defer c)(h:(execOp a.eval o).run P w= .ok r w')(hn:o.uponIn (FW rd) 0 P a next Q (.ok r w')):o.wpIn (FW rd) 0 P a w next Q:=
 ⟨fun _ _=>trivial,by rw[Oper.semAt_eq _ _ _ hd,h];exact hn⟩
theorem Ug{P:Program}{o:Oper}{s:St}{K:St->Prop}{av:AV}{gd g:Bool}(hd: ∀c,o.op≠.defer c)(hg:g=true)(h:Bz P g s o.op av)(hK:K (s.put o.dst (oP gd g av))):Runs P o s K:=by
 intro j0 j a w next Q hr hn
 obtain⟨v,h1,h2⟩:=h hg j0 j a w o rfl hr;refine uM hd h1 ?_;refine hn _ j _ w (hr.put o.dst ?_) (.refl _ _) hK;cases gd with
 |false=>exact h2
 |true=>exact .iff (fun _=>h2) (fun hf=>by rw[hg] at hf;cases hf)
theorem effG_sound{P:Program}{dr gd g:Bool}{o:Oper}{s:St}{K:St->Prop}{E:(St->Prop)->Prop}(h:vW dr gd g o s K E)(hgd:gd=false->g=true)(hE:E K->Runs P o s K):(g=true->Runs P o s K)/\(g=false->K (s.del o.dst)):=by
 unfold vW at h;obtain⟨_,h⟩:=h;cases gd with
 |false=>exact⟨fun _=>hE h,fun hf=>by rw[hgd rfl] at hf;cases hf⟩
 |true=>exact⟨fun hg=>hE (h.1 hg),h.2⟩
def Skips(o:Oper)(s:St)(K:St->Prop):Prop:= ∃s',K s'/\∀j0 j a w,Rel j0 s j a w->Rel j0 s' j (a.put o.dst Go.undef) w
theorem skips_del{o:Oper}{s:St}{K:St->Prop}(h:K (s.del o.dst)):Skips o s K:=⟨_,h,fun _ _ _ _ hr=>hr.del o.dst Go.undef⟩
theorem D7{o:Oper}{s:St}{K:St->Prop}{gd g:Bool}{av:AV}(hgd:gd=false->g=true)(hg:g=false)(h:K (s.put o.dst (oP gd g av))):Skips o s K:=by
 cases gd with
 |false=>rw[hgd rfl] at hg;cases hg
 |true=>exact⟨_,h,fun _ _ _ _ hr=>hr.put o.dst (.iff (fun ht=>by rw[hg] at ht;cases ht) (fun _=>rfl))⟩
theorem pX{P:Program}{f:FuncId}(h:dO P f=true)(args:Array Value)(w:World):(callFunc f args).run P w= .ok (.enter f args) w:=by
 unfold dO at h;split at h
 ·rename_i fn hf;simp only[Bool.and_eq_true,Bool.not_eq_true',Option.isSome_iff_ne_none,ne_eq] at h;have h1 : fn.name ≠ "runtime.NumGoroutine" := by simpa using h.2
  have h2:fn.body.isNone=false:=by
   cases hb:fn.body with
   |none=>simp[hb] at h
   |some c=>rfl
  simp[callFunc,hf,h1];intro hn;exact absurd hn h.1
 ·simp at h
theorem PG{P:Program}{w:World}{a:Act}{o:Oper}{c:Call}{f:Operand}{fid:FuncId}{ff cc:Array Value}(ho:o.op= .call c)(hc:c.callee= .value f)(hf:a.eval f= .func (.func fid) ff cc)(hen:dO P fid=true):
  (execOp a.eval o).run P w= .ok (.enter fid (ff++c.args.map a.eval++cc)) w:=by
 simp only[execOp,ho,resolve,hc,hf,Deferred.ofValue];simp[invoke,pX hen]
theorem l7{w:World}{j:Js}{xs ys:List AV}{us vs:Array Value}(h1:Rs w j xs us)(h2:Rs w j ys vs):Rs w j (xs++ys) (us++vs):=by
 refine⟨by simp[h1.1,h2.1],fun k hk=> ?_⟩;simp only[List.length_append] at hk;simp only[List.getD_eq_getElem?_getD,List.getElem?_append,Array.getD_eq_getD_getElem?,Array.getElem?_append,h1.1];by_cases hk1:k<xs.length
 ·have:=h1.2 k hk1;simp only[hk1,if_true];simpa[List.getD_eq_getElem?_getD,Array.getD_eq_getD_getElem?] using this
 ·have:=h2.2 (k-xs.length) (by omega);simp only[hk1,if_false];simpa[List.getD_eq_getElem?_getD,Array.getD_eq_getD_getElem?] using this
theorem Fe{g:Bool}(hg:g=true){s:St}{xs:List Operand}{CJ:List AV}(hl:CJ.length=xs.length)(h: ∀k,k<xs.length->Arg g s (xs.getD k (.const Go.undef)) (CJ.getD k .undef)){j0:J0}{j:Js}{a:Act}{w:World}(hr:Rel j0 s j a w):Rs w j CJ (xs.map a.eval).toArray:=by
 refine⟨by simp[hl],fun k hk=> ?_⟩;have hk':k<xs.length:=by omega
 have:=h k hk' hg j0 j a w hr;simpa[List.getD_eq_getElem?_getD,Array.getD_eq_getD_getElem?,hk'] using this
theorem Rt{P:Program}{o:Oper}{s:St}{K:St->Prop}{c:Call}{f:Operand}{fid:FuncId}{first captured CJ:List AV}{g:Bool}(hg:g=true)(ho:o.op= .call c)(hc:c.callee= .value f)(hf:Arg g s f (.clo (.func fid) first captured))
  (hl:CJ.length=c.args.toList.length) (ha: ∀k,k<c.args.toList.length->Arg g s (c.args.toList.getD k (.const Go.undef)) (CJ.getD k .undef))
  (gd:Bool) (h:CS P fid (first++(CJ++captured)) s.σ fun r σ' X=>K ((s.after σ' X).put o.dst (oP gd g r))):Runs P o s K:=by
 intro j0 j a w next Q hr hn
 have h1:=hf hg j0 j a w hr;have hen:=h.1;generalize hv:a.eval f=u at h1
 cases h1 with
 |clo ff cc h2 h3 h4 h5=>
  refine uM (by simp[ho]) (PG (P:=P) (w:=w) ho hc hv hen) ?_;refine⟨by simp[FW],Hw ?_⟩;have hrs:Rs w j (first++CJ++captured) (ff++c.args.map a.eval++cc):=by
   refine l7 (l7 ⟨h2,h4⟩ ?_) ⟨h3,h5⟩;have:=Fe hg hl ha hr;have e:(c.args.toList.map a.eval).toArray=c.args.map a.eval:=by apply Array.ext';simp
   rwa [e] at this
  rw[List.append_assoc] at hrs;refine(h.2 j w _ hr.cZ hrs).mono ?_;rintro e w' ⟨v,r,σ',j',X,rfl,h6,h7,h8,h9,h10,h11⟩;refine hn _ j' _ w' ((hr.after h8 h6 h9 h10).put o.dst ?_) h8 h11;cases gd with
  |false=>exact h7
  |true=>exact .iff (fun _=>h7) (fun hf=>by rw[hg] at hf;cases hf)
theorem MX{P:Program}{o:Oper}{s:St}{K:St->Prop}{c:Call}{f:Operand}{fid:FuncId}{first captured CJ:List AV}{g:Bool}(hg:g=true)(ho:o.op= .call c)(hc:c.callee= .value f)(hf:Arg g s f (.clo (.func fid) first captured))
  (hl:CJ.length=c.args.toList.length) (ha: ∀k,k<c.args.toList.length->Arg g s (c.args.toList.getD k (.const Go.undef)) (CJ.getD k .undef))
  (h:aW P fid (first++(CJ++captured)) s o.dst K):Runs P o s K:=by
 rcases h with h|⟨r,hx,hK⟩
 ·exact Rt hg ho hc hf hl ha false h
 ·intro j0 j a w next Q hr hn
  have h1:=hf hg j0 j a w hr;generalize hv:a.eval f=u at h1
  cases h1 with
  |clo ff cc h2 h3 h4 h5=>
   have hrs:Rs w j (first++CJ++captured) (ff++c.args.map a.eval++cc):=by
    refine l7 (l7 ⟨h2,h4⟩ ?_) ⟨h3,h5⟩;have:=Fe hg hl ha hr;have e:(c.args.toList.map a.eval).toArray=c.args.map a.eval:=by apply Array.ext';simp
    rwa [e] at this
   rw[List.append_assoc] at hrs;obtain⟨v,g1,g2⟩:=hx j w _ hr.cZ hrs;have hrun:(execOp a.eval o).run P w= .ok (.value v) w:=by
    rw[Array.append_assoc] at g1;simp only[execOp,ho,resolve,hc,hv,Deferred.ofValue];simp[invoke,g1]
   refine uM (by simp[ho]) hrun ?_;exact hn _ j _ w (hr.put o.dst g2) (.refl _ _) hK
theorem yield_run{P:Program}{w w':World}{a:Act}{o:Oper}{c:Call}{f:Operand}{cb:Nat}{x:Next}(ho:o.op= .call c)(hc:c.callee= .value f)(hf:a.eval f= .func (.yield cb) #[] #[])(h:(Instr.yield cb (c.args.map a.eval)).run P w= .ok x w'):
  (execOp a.eval o).run P w= .ok x w':=by
 simp only[execOp,ho,resolve,hc,hf,Deferred.ofValue];simp[invoke,h]
theorem MW{P:Program}{o:Oper}{s:St}{K:St->Prop}{c:Call}{f:Operand}{b:Nat}{CJ:List AV}{g:Bool}(hg:g=true)(ho:o.op= .call c)(hc:c.callee= .value f)(hf:Arg g s f (.xX b))
  (hl:CJ.length=c.args.toList.length) (ha: ∀k,k<c.args.toList.length->Arg g s (c.args.toList.getD k (.const Go.undef)) (CJ.getD k .undef)) (h:YSk P b CJ s o.dst K):Runs P o s K:=by
 intro j0 j a w next Q hr hn
 have h1:=hf hg j0 j a w hr;generalize hv:a.eval f=u at h1
 cases h1 with
 | @xX _ cb hb=>
  have hrs:=Fe hg hl ha hr;have e:(c.args.toList.map a.eval).toArray=c.args.map a.eval:=by apply Array.ext';simp
  rw[e] at hrs;obtain⟨fn,tmps,asg,bd,h2,h3⟩:=h j0.rd j w _ cb hr.cZ hrs hb;refine uM (by simp[ho]) (yield_run ho hc hv h2) ?_;refine⟨by simp[FW],?_⟩;refine h3.mono ?_;rintro e w' ⟨v,r,σ',j',X,rfl,h6,h7,h8,h9,h10,h11⟩;exact hn _ j' _ w' ((hr.after h8 h6 h9 h10).put o.dst h7) h8 h11
theorem Rl{o:Oper}{s:St}{K:St->Prop}{r:AV}(h:K (s.put o.dst (.iff false r))):Skips o s K:=
 ⟨_,h,fun _ _ _ _ hr=>hr.put o.dst (.iff (fun ht=>by cases ht) (fun _=>rfl))⟩
theorem PO{P:Program}{o:Oper}{g:Bool}{s:St}{t:TypeId}{len:Nat}{ps:Array (Nat×Operand)}{parts:List (Nat×AV)}{K:AV->Prop}{j0:J0}{j:Js}{a:Act}{w:World}(ho:o.op= .buildSlice t len ps)(hg:g=true)(hr:Rel j0 s j a w)
  (h:dZ P t len parts K) (hl:parts.length=ps.toList.length) (hp: ∀k,k<ps.toList.length->(parts.getD k (0,.undef)).1=(ps.toList.getD k (0,.const Go.undef)).1/\Arg g s (ps.toList.getD k (0,.const Go.undef)).2 (parts.getD k (0,.undef)).2):
  ∃v w' r,(execOp a.eval o).run P w= .ok (.value v) w'/\aS w' j s.σ/\R w' j r v/\Ev j w j w'/\K r:=by
 obtain⟨v,w',r,h1,h2,h3,h4,h5⟩:=I5 (P:=P) (vals:=ps.toList.map fun p=>(p.1,a.eval p.2)) hr.cZ h (by simpa using hl) (fun k hk=>by
  have hk':k<ps.toList.length:=by rw[←hl];exact hk
  have:=hp k hk';have e:(ps.toList.map fun p=>(p.1,a.eval p.2)).getD k (0,Go.undef)=((ps.toList.getD k (0,.const Go.undef)).1,a.eval (ps.toList.getD k (0,.const Go.undef)).2):=by
   have hk2:k<ps.size:=by simpa using hk'
   simp[List.getD_eq_getElem?_getD,hk2]
  rw[e];exact⟨this.1,this.2 hg j0 j a w hr⟩)
 have e:(ps.toList.map fun p=>(p.1,a.eval p.2)).toArray=ps.map fun(i,x)=>(i,a.eval x):=by
  apply Array.ext';simp
 rw[e] at h1;exact⟨v,w',r,by simp only[execOp,ho];exact gW h1,h2,h3,h4,h5⟩
theorem BP{P:Program}{gd g:Bool}{o:Oper}{s:St}{K:St->Prop}(h:UK P false gd g o s K)(hgd:gd=false->g=true):(g=true->Runs P o s K)/\(g=false->Skips o s K):=by
 have eff: ∀{E:(St->Prop)->Prop},vW false gd g o s K E->(E K->Runs P o s K)->(g=true->Runs P o s K)/\(g=false->Skips o s K):=by
  intro E he hE;have:=effG_sound (P:=P) he hgd hE;exact⟨this.1,fun hg=>skips_del (this.2 hg)⟩
 have DI: ∀{op:Op},o.op=op->pv P g s op (fun av=>K (s.put o.dst (oP gd g av)))->(g=true->Runs P o s K)/\(g=false->Skips o s K):=by
  intro op ho hp;have hd:=NU hp;obtain⟨av,h1,h2⟩:=NT hp;rw[←ho] at h2 hd;exact⟨fun hg=>Ug hd hg h2 h1,fun hg=>D7 hgd hg h1⟩
 unfold UK at h;split at h
 ·
  rename_i t x ho;refine eff h fun h=> ?_;obtain⟨av,h,hx⟩:=aB h;obtain⟨hone,hK⟩:=h;intro j0 j a w next Q hr hn
  have h1:=hx rfl j0 j a w hr;obtain⟨h2,h3⟩:=AO h1 hone;obtain⟨g1,g2,g3⟩:=hr.newVar (a.eval x).cells t h2 (fun k hk=>(h3 k hk).1);have hrun:(execOp a.eval o).run P w= .ok (.value (.pointer (some ⟨w.heap.size,0,none⟩))) (w.alloc (.cells (a.eval x).cells t)):=by
   simp[execOp,ho,Instr.box,Go.newVar,newRow]
  refine uM (by simp[ho]) hrun ?_;exact hn _ _ _ _ (g1.put o.dst g3) g2 hK
 ·
  rename_i t ho;refine eff h fun h=> ?_;split at h
  ·rename_i z hz;intro j0 j a w next Q hr hn
   have hz': ∃i zz,P.info? t=some i/\i.zero=some zz/\zz.cells.toList=z:=by
    unfold dJ at hz;split at hz
    ·rename_i i hi;split at hz
     ·rename_i zz hzz;simp only[Option.some.injEq] at hz;exact⟨i,zz,hi,hzz,hz⟩
     ·simp at hz
    ·simp at hz
   obtain⟨i,zz,hi,hzz,rfl⟩:=hz';obtain⟨g1,g2,g3⟩:=hr.newVar (cs:=zz.cells.toList.map fun v=> .d (.v v)) zz.cells t (by simp) (fun k hk=>by
    simp only[List.length_map,Array.length_toList] at hk;have e1:(zz.cells.toList.map fun v=>AV.d (.v v)).getD k .undef= .d (.v (zz.cells.getD k Go.undef)):=by
     simp[List.getD_eq_getElem?_getD,Array.getD_eq_getD_getElem?,hk]
    rw[e1];exact .d (.v _))
   have hrun:(execOp a.eval o).run P w= .ok (.value (.pointer (some ⟨w.heap.size,0,none⟩))) (w.alloc (.cells zz.cells t)):=by
    simp[execOp,ho,Instr.alloc,zeroValue,typeInfo,hi,hzz,Go.newVar,newRow]
   refine uM (by simp[ho]) hrun ?_;exact hn _ _ _ _ (g1.put o.dst g3) g2 h
  ·exact h.elim
 ·
  rename_i t p v ho;refine eff h fun h=> ?_;obtain⟨pa,h,hp⟩:=aB h;obtain⟨va,h,hv⟩:=aB h;unfold qU at h;split at h
  ·rename_i agg m ht;obtain⟨hone,hlen,h⟩:=h;split at h
   ·rename_i side σ' hst;obtain⟨hside,hK⟩:=h;intro j0 j a w next Q hr hn
    obtain⟨w',h1,h2,h3⟩:=yX (P:=P) hr.cZ ht (hp rfl j0 j a w hr) (hv rfl j0 j a w hr) hone hlen hst hside;have hrun:(execOp a.eval o).run P w= .ok .skip w':=by simp[execOp,ho,h1]
    refine uM (by simp[ho]) hrun ?_;have:=hr.after h3 h2 (Nat.le_refl _) (.refl _ []);exact hn _ _ _ _ (this.put o.dst (.undef _)) h3 hK
   ·exact h.elim
  ·exact h.elim
 ·
  rename_i t len ps ho;obtain⟨parts,h,hl,hp⟩:=mW h;refine⟨fun hg=> ?_,fun hg=> ?_⟩
  ·intro j0 j a w next Q hr hn
   obtain⟨v,w',r,h1,h2,h3,h4,h5⟩:=PO (P:=P) ho hg hr h hl hp;refine uM (by simp[ho]) h1 ?_;have:=hr.after h4 h2 (Nat.le_refl _) (.refl _ []);refine hn _ _ _ _ (this.put o.dst ?_) h4 h5;cases gd with
   |false=>exact h3
   |true=>exact .iff (fun _=>h3) (fun hf=>by rw[hg] at hf;cases hf)
  ·obtain⟨av,h⟩:=PK h;exact D7 hgd hg h
 ·
  rename_i t r ho;refine eff h fun h=> ?_;split at h
  ·rename_i d z ht;have fin:(K ((s.after (s.σ++[.mp d [] fun _=> .undef]) []).put o.dst (.mp s.σ.length)))->∀(hr0: ∀(a:Act) (w:World) j0 j,Rel j0 s j a w->(execOp a.eval o).run P w= .ok (.value (.map (some w.heap.size))) (w.alloc (.map #[] 0))),Runs P o s K:=by
    intro hK hrun j0 j a w next Q hr hn
    obtain⟨h1,h2,h3⟩:=XK hr.cZ d;refine uM (by simp[ho]) (hrun a w j0 j hr) ?_;exact hn _ _ _ _ ((hr.after h2 h1 (by simp) (bZ _ _)).put o.dst h3) h2 hK
   obtain⟨kt,et,kd,zz,g1,g2,g3,g4,g5⟩:=qM ht;split at h
   ·exact fin h fun a w j0 j hr=>by simp[execOp,ho,Instr.makeMap]
   ·obtain⟨xa,h,hx⟩:=aB h;split at h
    ·refine fin h fun a w j0 j hr=> ?_;have h1:=kD (hx rfl j0 j a w hr);simp[execOp,ho,Instr.makeMap,h1,run_underlying g1,asInt,asIntOf,Result.andThen]
    ·exact h.elim
  ·exact h.elim
 ·
  rename_i t m k v ho;refine eff h fun h=> ?_;obtain⟨ma,h,hm⟩:=aB h;obtain⟨ka,h,hk⟩:=aB h;obtain⟨va,h,hv⟩:=aB h;intro j0 j a w next Q hr hn
  obtain⟨w',σ',h1,h2,h3,h4⟩:=Rf (P:=P) hr.cZ h (hm rfl j0 j a w hr) (hk rfl j0 j a w hr) (hv rfl j0 j a w hr);have hrun:(execOp a.eval o).run P w= .ok .skip w':=by simp[execOp,ho,h1]
  refine uM (by simp[ho]) hrun ?_;exact hn _ _ _ _ ((hr.after h3 h2 (Nat.le_refl _) (.refl _ [])).put o.dst (.undef _)) h3 h4
 ·
  rename_i t m k v ho;refine eff h fun h=> ?_;obtain⟨ma,h,hm⟩:=aB h;obtain⟨ka,h,hk⟩:=aB h;obtain⟨va,h,hv⟩:=aB h;intro j0 j a w next Q hr hn
  obtain⟨w',σ',h1,h2,h3,h4⟩:=Rf (P:=P) hr.cZ h (hm rfl j0 j a w hr) (hk rfl j0 j a w hr) (hv rfl j0 j a w hr);have hrun:(execOp a.eval o).run P w= .ok .skip w':=by simp[execOp,ho,h1]
  refine uM (by simp[ho]) hrun ?_;exact hn _ _ _ _ ((hr.after h3 h2 (Nat.le_refl _) (.refl _ [])).put o.dst (.undef _)) h3 h4
 ·
  rename_i t m k ho;refine eff h fun h=> ?_;obtain⟨ma,h,hm⟩:=aB h;obtain⟨ka,h,hk⟩:=aB h;intro j0 j a w next Q hr hn
  obtain⟨v,w',r,σ',h1,h2,h3,h4,h5⟩:=SS (P:=P) hr.cZ h (hm rfl j0 j a w hr) (hk rfl j0 j a w hr);have hrun:(execOp a.eval o).run P w= .ok (.value v) w':=by
   simp only[execOp,ho];exact gW h1
  refine uM (by simp[ho]) hrun ?_;exact hn _ _ _ _ ((hr.after h4 h2 (Nat.le_refl _) (.refl _ [])).put o.dst h3) h4 h5
 ·
  rename_i t m k v ho;refine eff h fun h=> ?_;obtain⟨ma,h,hm⟩:=aB h;obtain⟨ka,h,hk⟩:=aB h;obtain⟨va,h,hv⟩:=aB h;intro j0 j a w next Q hr hn
  obtain⟨w',σ',h1,h2,h3,h4⟩:=SN (P:=P) (t:=t) hr.cZ h (hm rfl j0 j a w hr) (hk rfl j0 j a w hr) (hv rfl j0 j a w hr);have hrun:(execOp a.eval o).run P w= .ok .skip w':=by simp[execOp,ho,h1]
  refine uM (by simp[ho]) hrun ?_;exact hn _ _ _ _ ((hr.after h3 h2 (Nat.le_refl _) (.refl _ [])).put o.dst (.undef _)) h3 h4
 ·
  rename_i t x ho;refine eff h fun h=> ?_;obtain⟨xa,h,hx⟩:=aB h;unfold aaj at h;split at h
  ·rename_i b;split at h
   ·rename_i d ks f hb;split at h
    ·rename_i d' z ht;obtain⟨hd,hK⟩:=h;simp only[beq_iff_eq] at hd;subst hd;intro j0 j a w next Q hr hn
     obtain⟨w',j',h1,h2,h3,h4,h5,h6⟩:=range_run (P:=P) hr.cZ hb (hx rfl j0 j a w hr) ht;have hrun:(execOp a.eval o).run P w= .ok (.value (.pointer (some ⟨w.heap.size,0,none⟩))) w':=by
      simp only[execOp,ho];exact gW h1
     refine uM (by simp[ho]) hrun ?_;exact hn _ _ _ _ ((hr.after h3 h2 h4 h5).put o.dst h6) h3 hK
    ·exact h.elim
   ·exact h.elim
  ·rename_i d ks f;split at h
   ·rename_i d' z ht;obtain⟨hd,hK⟩:=h;simp only[beq_iff_eq] at hd;subst hd;intro j0 j a w next Q hr hn
    obtain⟨w',j',h1,h2,h3,h4,h5,h6⟩:=aai (P:=P) hr.cZ (hx rfl j0 j a w hr) ht;have hrun:(execOp a.eval o).run P w= .ok (.value (.pointer (some ⟨w.heap.size,0,none⟩))) w':=by
     simp only[execOp,ho];exact gW h1
    refine uM (by simp[ho]) hrun ?_;exact hn _ _ _ _ ((hr.after h3 h2 h4 h5).put o.dst h6) h3 hK
   ·exact h.elim
  ·exact h.elim
 ·
  rename_i x ho;refine eff h fun h=> ?_;obtain⟨xa,h,hx⟩:=aB h;unfold nextA at h;split at h
  ·rename_i b;split at h
   ·rename_i left cur f hb;intro j0 j a w next Q hr hn
    obtain⟨q,w',u,h1,h2,h3,h4,h5,h6⟩:=next_run (P:=P) hr.cZ hb (hx rfl j0 j a w hr) o.type;have hrun:(execOp a.eval o).run P w= .ok (.value u) w':=by
     simp only[execOp,ho];exact gW h1
    refine uM (by simp[ho]) hrun ?_;exact hn _ _ _ _ ((hr.after h5 h4 (Nat.le_refl _) (.refl _ [])).put o.dst h6) h5 (h q h2 h3)
   ·exact h.elim
  ·exact h.elim
 ·
  rename_i t l c ho;refine eff h fun h=> ?_;obtain⟨la,h,hl⟩:=aB h;split at h
  ·obtain⟨ca,h,hc⟩:=aB h;split at h
   ·intro j0 j a w next Q hr hn
    obtain⟨v,w',j',r,σ',h1,h2,h3,h4,h5,h6,h7⟩:=aau (P:=P) hr.cZ h;have e1:=kD (hl rfl j0 j a w hr);have e2:=kD (hc rfl j0 j a w hr);have hrun:(execOp a.eval o).run P w= .ok (.value v) w':=by
     simp only[execOp,ho,e1,e2];exact gW h1
    refine uM (by simp[ho]) hrun ?_;exact hn _ _ _ _ ((hr.after h4 h2 h5 h6).put o.dst h3) h4 h7
   ·exact h.elim
  ·exact h.elim
 ·
  rename_i src dst x ho;split at h
  ·rename_i e hbt;refine eff h fun h=> ?_;obtain⟨hst,h⟩:=h;obtain⟨xa,h,hx⟩:=aB h;split at h
   ·rename_i b;intro j0 j a w next Q hr hn
    obtain⟨v,w',h1,h2,h3,h4⟩:=WB (P:=P) hr.cZ hst hbt b;have e1:=kD (hx rfl j0 j a w hr);have hrun:(execOp a.eval o).run P w= .ok (.value v) w':=by
     simp only[execOp,ho,e1];exact gW h1
    refine uM (by simp[ho]) hrun ?_;exact hn _ _ _ _ ((hr.after h4 h2 (by simp) (bZ _ _)).put o.dst h3) h4 h
   ·exact h.elim
  ·exact DI ho h
 ·
  rename_i op t x y ty ho;split at h
  ·rename_i hsl;refine eff h fun h=> ?_;have hu: ∃e,P.underlying t=some (.slice e):=by
    unfold dV at hsl;split at hsl
    ·exact⟨_,by assumption⟩
    ·simp at hsl
   obtain⟨e,hu⟩:=hu;have YI: ∀(w:World) (p:Option Addr) (n c:Nat),(Op.equal t (.slice p n c) (.slice none 0 0)).run P w= .ok p.isNone w:=by
    intro w p n c;show(Op.equalIn (9999+1) t _ _).run P w=_
    rw[Op.equalIn];cases p<;>simp[underlying,hu]
   have main: ∀(neg:Bool) (hop:op=if neg then .neq else .eql) (hy:y= .const (.slice none 0 0)),(arg true s x fun a=>Oj neg a fun r=>K (s.put o.dst r))->Runs P o s K:=by
    intro neg hop hy h;obtain⟨xa,h,hx⟩:=aB h;intro j0 j a w next Q hr hn
    have h1:=hx rfl j0 j a w hr;have hrun: ∀(p:Option Addr) (n c:Nat),a.eval x= .slice p n c->(execOp a.eval o).run P w= .ok (.value (.bool (p.isNone !=neg))) w:=by
     intro p n c hp;subst hy;cases neg with
     |false=>
      simp only[Bool.false_eq_true,if_false] at hop;subst hop;simp only[execOp,ho,hp];have:(do eqGuard .eql t x (.const (.slice none 0 0)) (.slice p n c) (a.eval (.const (.slice none 0 0)));binOp .eql t (.slice p n c) (a.eval (.const (.slice none 0 0))):Sem Value).run P w= .ok (.bool p.isNone) w:=by
       rw[Sem.run_bind,lZ (by simp) (by simp)];show(do pure (Value.bool (←Op.equal t (.slice p n c) (.slice none 0 0))):Sem Value).run P w=_
       simp[YI]
      have:=gW this;simpa using this
     |true=>
      simp only[if_true] at hop;subst hop;simp only[execOp,ho,hp];have:(do eqGuard .neq t x (.const (.slice none 0 0)) (.slice p n c) (a.eval (.const (.slice none 0 0)));binOp .neq t (.slice p n c) (a.eval (.const (.slice none 0 0))):Sem Value).run P w= .ok (.bool !p.isNone) w:=by
       rw[Sem.run_bind,lZ (by simp) (by simp)];show(do pure (Value.bool (!(←Op.equal t (.slice p n c) (.slice none 0 0)))):Sem Value).run P w=_
       simp[YI]
      have:=gW this;simpa using this
    unfold Oj at h;split at h
    ·generalize hv:a.eval x=u at h1
     cases h1 with|d h1=>
     cases h1 with
     |sl ad c val hcap hle ha hlt hb hlen hcell hrel=>
      refine uM (by simp[ho]) (hrun _ _ _ hv) ?_;exact hn _ _ _ _ (hr.put o.dst (.d (.v _))) (.refl _ _) (h false (by simp))
     |zero p c hcap hp=>
      refine uM (by simp[ho]) (hrun _ _ _ hv) ?_;exact hn _ _ _ _ (hr.put o.dst (.d (.v _))) (.refl _ _) (h p.isNone (fun _=>rfl))
    ·generalize hv:a.eval x=u at h1
     cases h1 with
     |ms c e m h1 h2 h3 h4=>
      refine uM (by simp[ho]) (hrun _ _ _ hv) ?_;exact hn _ _ _ _ (hr.put o.dst (.d (.v _))) (.refl _ _) (h false (by simp))
     |ms0 p h1=>
      refine uM (by simp[ho]) (hrun _ _ _ hv) ?_;exact hn _ _ _ _ (hr.put o.dst (.d (.v _))) (.refl _ _) (h p.isNone (fun _=>rfl))
     |sN p e m h1 h2 h3 h4=>
      refine uM (by simp[ho]) (hrun _ _ _ hv) ?_;exact hn _ _ _ _ (hr.put o.dst (.d (.v _))) (.refl _ _) (h p.isNone (fun _=>rfl))
    ·have:=kD h1;refine uM (by simp[ho]) (hrun _ _ _ this) ?_;refine hn _ _ _ _ (hr.put o.dst (.d (.v _))) (.refl _ _) ?_;simpa using h
    ·exact h.elim
   split at h
   ·exact main false rfl rfl h
   ·exact main true rfl rfl h
   ·exact h.elim
  ·exact DI ho h
 ·
  rename_i c ho;split at h
  ·rename_i b hb;split at h
   ·refine eff h fun h=> ?_;split at h
    ·rename_i x y t t' hxy ht;obtain⟨xa,h,hx⟩:=aB h;obtain⟨ya,h,hy⟩:=aB h;intro j0 j a w next Q hr hn
     obtain⟨v,w',j',r,σ',X,h1,h2,h3,h4,h5,h6,h7⟩:=uJ (P:=P) (ty:=o.type) hr.cZ h (hx rfl j0 j a w hr) (hy rfl j0 j a w hr);have hrun:(execOp a.eval o).run P w= .ok (.value v) w':=by
      have e1:c.args.map a.eval= #[a.eval x,a.eval y]:=by
       have:c.args= #[x,y]:=by apply Array.ext';simpa using hxy
       rw[this];simp
      have e2:c.argTypes= #[t,t']:=by apply Array.ext';simpa using ht
      simp only[execOp,ho,resolve,hb];simp[invoke,builtin,e1,e2,h1]
     refine uM (by simp[ho]) hrun ?_;exact hn _ _ _ _ ((hr.after h4 h2 h5 h6).put o.dst h3) h4 h7
    ·exact h.elim
   ·refine eff h fun h=> ?_;split at h
    ·rename_i x y t t' hxy ht;obtain⟨xa,h,hx⟩:=aB h;obtain⟨ya,h,hy⟩:=aB h;intro j0 j a w next Q hr hn
     obtain⟨w',k,σ',h1,h2,h3,h4⟩:=copy_sound (P:=P) (t':=t') (ty:=o.type) hr.cZ h (hx rfl j0 j a w hr) (hy rfl j0 j a w hr);have hrun:(execOp a.eval o).run P w= .ok (.value (.int .i64 k)) w':=by
      have e1:c.args.map a.eval= #[a.eval x,a.eval y]:=by
       have:c.args= #[x,y]:=by apply Array.ext';simpa using hxy
       rw[this];simp
      have e2:c.argTypes= #[t,t']:=by apply Array.ext';simpa using ht
      simp only[execOp,ho,resolve,hb];simp[invoke,builtin,e1,e2,h1]
     refine uM (by simp[ho]) hrun ?_;exact hn _ _ _ _ ((hr.after h3 h2 (Nat.le_refl _) (.refl _ [])).put o.dst (.d (.v _))) h3 h4
    ·exact h.elim
   ·refine eff h fun h=> ?_;split at h
    ·rename_i x t hxy ht;obtain⟨xa,h,hx⟩:=aB h;intro j0 j a w next Q hr hn
     obtain⟨w',σ',h1,h2,h3,h4⟩:=Y2 (P:=P) (ty:=o.type) hr.cZ h (hx rfl j0 j a w hr);have hrun:(execOp a.eval o).run P w= .ok (.value (.tuple #[])) w':=by
      have e1:c.args.map a.eval= #[a.eval x]:=by
       have:c.args= #[x]:=by apply Array.ext';simpa using hxy
       rw[this];simp
      have e2:c.argTypes= #[t]:=by apply Array.ext';simpa using ht
      simp only[execOp,ho,resolve,hb];simp[invoke,builtin,e1,e2,h1]
     refine uM (by simp[ho]) hrun ?_;exact hn _ _ _ _ ((hr.after h3 h2 (Nat.le_refl _) (.refl _ [])).put o.dst (.eX #[] (Nat.le_refl _) (by simp))) h3 h4
    ·exact h.elim
   ·exact DI ho h
  ·rename_i f hf;obtain⟨fa,h,hfa⟩:=aB h;replace hfa:=TB hfa
   revert h hfa
   generalize Hl fa=fa'
   intro h hfa;split at h
   ·obtain⟨CJ,h,hl,ha⟩:=ku h;simp only at h;split at h
    ·rcases h with⟨r,h1,h2⟩|⟨r0,h1,h2⟩
     ·refine⟨fun hg=> ?_,fun hg=>D7 hgd hg h2⟩;exact Rt hg ho hf hfa hl ha true ((h1 hg).cs h2)
     ·exact⟨fun hg=>MX hg ho hf hfa hl ha (h1 hg),fun hg=>Rl (h2 hg)⟩
    ·have hg:=hgd rfl;exact⟨fun hg=>MX hg ho hf hfa hl ha h,fun hg'=>by rw[hg] at hg';cases hg'⟩
   ·obtain⟨CJ,h,hl,ha⟩:=ku h;simp only at h;split at h
    ·obtain⟨r0,h1,h2⟩:=h;exact⟨fun hg=>MW hg ho hf hfa hl ha (h1 hg),fun hg=>Rl (h2 hg)⟩
    ·have hg:=hgd rfl;exact⟨fun hg=>MW hg ho hf hfa hl ha h,fun hg'=>by rw[hg] at hg';cases hg'⟩
   ·exact h.elim
  ·exact h.elim
 ·exact DI rfl h
theorem kY{P:Program}{Q:Exit->Act->World->Prop}{all:List Oper} : ∀{os:List Oper} {s:St} {K:St->Prop} {j0:J0} {j:Js} {a:Act} {w:World},bI P false all os s K->Rel j0 s j a w->
  (∀s' j' a' w',Rel j0 s' j' a' w'->Ev j w j' w'->K s'->Q .normal a' w')->wpListIn (FW j0.rd) 0 P all.toArray Q os a w
 |[],s,K,j0,j,a,w,h,hr,hQ=>hQ s j a w hr (.refl _ _) h
 |o::os,s,K,j0,j,a,w,h,hr,hQ=>by
  obtain⟨gd,g,h,hgd,hw⟩:=o8 h;obtain⟨h1,h2⟩:=BP h hgd;have hw:=hw hr;simp only[wpListIn,hw];cases g with
  |true=>
   simp only[if_true];exact(h1 rfl j0 j a w _ _ hr fun s' j' a' w' hr' he hK=>kY hK hr' fun s'' j'' a'' w'' U3 he' hK'=>hQ s'' j'' a'' w'' U3 (he.trans he') hK')
  |false=>
   simp only[Bool.false_eq_true,if_false];obtain⟨s',hK,hs⟩:=h2 rfl;exact⟨fun _ _=>trivial,kY hK (hs j0 j a w hr) hQ⟩
theorem EL{P:Program}{Q:Exit->St->Prop}{s:St}{id:Nat}{ops:List Oper}(h:bI P false ops ops s (Q .normal)):dY P (.region id ops.toArray false) Q s:=by
 intro j0 j a w hr;refine wpIn_region_lit (kY h hr fun s' j' a' w' hr' he hq=>⟨s',j',hr',he,hq⟩)
def aaq(o:Oper):List Nat:=o.op.operands.toList.filterMap fun| .tmp t=>some t|_=>none
def gTmps(all:List Oper)(o:Oper):List Nat:=match o.guard with
 |none=>[]
 |some (jx,_)=>match all[jx]? with
  |some g=>g.dst.toList
  |none=>[]
def looks(all:List Oper)(o:Oper):List Nat:=aaq o++gTmps all o
def bf(L:List Nat):List (Nat×AV)->List (Nat×AV)
 |[]=>[]
 |(k,v)::t=>if L.contains k then(k,v)::bf L t else bf L t
theorem iE{L:List Nat}{t:List (Nat×AV)}{k:Nat} :get (bf L t) k=if L.contains k then get t k else none:=by
 induction t with
 |nil=>simp[bf,get]
 |cons x t ih=>
  obtain⟨q,v⟩:=x;simp only[bf];by_cases hq:q=k
  ·subst hq;by_cases hc:L.contains q=true
   ·rw[if_pos hc,if_pos hc];simp[get]
   ·rw[if_neg hc,if_neg hc,ih,if_neg hc]
  ·by_cases hc:L.contains q=true
   ·rw[if_pos hc];simp only[get,xO hq,Bool.false_eq_true,if_false,ih]
   ·rw[if_neg hc];simp only[Bool.false_eq_true,if_false,ih,get,xO hq]
def St.bf(L:List Nat)(s:St):St:= { s with t:=aU.bf L s.t }
theorem val_restr{L:List Nat}{s:St}{x:Operand}(h: ∀t,x= .tmp t->t∈L):val (s.bf L) x=val s x:=by
 cases x with
 |tmp t=>simp[val,St.bf,iE,h t rfl]
 |_=>rfl
theorem aP{L:List Nat}{g:Bool}{s:St}{x:Operand}{K:AV->Prop}(h: ∀t,x= .tmp t->t∈L):arg g (s.bf L) x K=arg g s x K:=by
 simp only[arg,val_restr h]
theorem sD{L:List Nat}{g:Bool}{s:St} : ∀{xs:List Operand} {K:List AV->Prop},(∀x∈xs,∀t,x= .tmp t->t∈L)->args g (s.bf L) xs K=args g s xs K
 |[],_,_=>rfl
 |x::xs,K,h=>by
  simp only[args];rw[aP (h x (by simp))];congr 1;funext a
  exact sD fun y hy=>h y (by simp[hy])
theorem wX{L:List Nat}{g:Bool}{s:St} : ∀{xs:List (Nat×Operand)} {K:List (Nat×AV)->Prop},(∀x∈xs,∀t,x.2= .tmp t->t∈L)->uy g (s.bf L) xs K=uy g s xs K
 |[],_,_=>rfl
 |(i,x)::xs,K,h=>by
  simp only[uy];rw[aP (h (i,x) (by simp))];congr 1;funext a
  exact wX fun y hy=>h y (by simp[hy])
theorem iH{L:List Nat}{g:Bool}{s:St}{x:Option Operand}{d:Int}{K:Int->Prop}(h: ∀y,x=some y->∀t,y= .tmp t->t∈L):bnd g (s.bf L) x d K=bnd g s x d K:=by
 cases x with
 |none=>rfl
 |some x=>simp only[bnd];rw[aP (h x rfl)]
theorem rG{o:Oper}{x:Operand}{t:Nat}(hx:x∈o.op.operands)(ht:x= .tmp t):t∈aaq o:=by
 subst ht;simp only[aaq,List.mem_filterMap];exact⟨.tmp t,by simpa using hx,rfl⟩
set_option maxHeartbeats 1000000 in
theorem Xm{P:Program}{L:List Nat}{g:Bool}{s:St}{op:Op}{K:AV->Prop}(h: ∀x∈op.operands,∀t,x= .tmp t->t∈L):pv P g (s.bf L) op K=pv P g s op K:=by
 cases op with
 |move x=>simp only[pv];exact aP (h x (by simp[Op.operands]))
 |assign x=>simp only[pv];exact aP (h x (by simp[Op.operands]))
 |pick c x y=>
  simp only[pv];rw[aP (h c (by simp[Op.operands]))];congr 1;funext a
  split
  ·rw[aP (h x (by simp[Op.operands]))];congr 1;funext a
   split
   ·rw[aP (h y (by simp[Op.operands]))]
   ·rfl
  ·rfl
 |binOp op t x y ty=>
  simp only[pv];rw[aP (h x (by simp[Op.operands]))];congr 1;funext a
  rw[aP (h y (by simp[Op.operands]))]
 |unOp op t x=>simp only[pv];exact aP (h x (by simp[Op.operands]))
 |extract x i=>simp only[pv];exact aP (h x (by simp[Op.operands]))
 |fieldAddr t x f=>simp only[pv];split<;>first|rfl|exact aP (h x (by simp[Op.operands]))
 |field t x f=>simp only[pv];split<;>first|rfl|exact aP (h x (by simp[Op.operands]))
 |indexAddr t x y=>
  simp only[pv];rw[aP (h x (by simp[Op.operands]))];congr 1;funext a
  rw[aP (h y (by simp[Op.operands]))]
 |index t x y=>
  simp only[pv];rw[aP (h x (by simp[Op.operands]))];congr 1;funext a
  split
  ·rw[aP (h y (by simp[Op.operands]))]
  ·split
   ·rw[aP (h y (by simp[Op.operands]))]
   ·rfl
  ·rfl
 |load t x=>simp only[pv];rw[aP (h x (by simp[Op.operands]))];rfl
 |slice t x lo hi mx=>
  simp only[pv];rw[aP (h x (by simp[Op.operands]))];congr 1;funext a
  have hlo: ∀y,lo=some y->∀t,y= .tmp t->t∈L:=fun y hy=>h y (by simp[Op.operands,hy]);have hhi: ∀y,hi=some y->∀t,y= .tmp t->t∈L:=fun y hy=>h y (by simp[Op.operands,hy]);have hmx: ∀y,mx=some y->∀t,y= .tmp t->t∈L:=fun y hy=>h y (by simp[Op.operands,hy]);unfold MP;split
  ·congr 1;rw[iH hlo];congr 1;funext l;rw[iH hhi]
  ·congr 1;rw[iH hlo];congr 1;funext l;rw[iH hhi];congr 1;funext hh
   cases mx with
   |none=>rfl
   |some m=>simp only;rw[iH hmx]
  ·congr 1;rw[iH hlo];congr 1;funext l;rw[iH hhi]
  ·congr 1;rw[iH hlo];congr 1;funext l;rw[iH hhi];congr 1;funext hh
   cases mx with
   |none=>rfl
   |some m=>simp only;rw[iH hmx]
  ·congr 1;rw[iH hlo];congr 1;funext l;rw[iH hhi]
  ·rfl
 |build t ps=>
  simp only[pv];exact wX fun x hx=>h x.2 (by simp only[Op.operands,List.mem_toArray,List.mem_map];exact⟨x,hx,rfl⟩)
 |makeFunc fn f c=>
  simp only[pv];rw[sD fun x hx=>h x (by simp only[Op.operands,Array.mem_append];exact .inl (by simpa using hx))];congr 1;funext a
  exact sD fun x hx=>h x (by simp only[Op.operands,Array.mem_append];exact .inr (by simpa using hx))
 |convert src dst x=>simp only[pv];exact aP (h x (by simp[Op.operands]))
 |nilCheck x=>simp only[pv];exact aP (h x (by simp[Op.operands]))
 |lookup t x k ok=>
  simp only[pv];rw[aP (h x (by simp[Op.operands]))];congr 1;funext a
  rw[aP (h k (by simp[Op.operands]))];rfl
 |entry x=>simp only[pv];rw[aP (h x (by simp[Op.operands]))];rfl
 |call c=>
  have hc: ∀x∈c.args.toList,∀t,x= .tmp t->t∈L:=fun x hx=>h x (by
   simp only[Op.operands,Call.operands,Array.mem_append];exact .inr (by simpa using hx))
  simp only[pv];split
  ·rename_i e1 e2 e3;rw[e2] at hc;exact aP (hc _ (by simp))
  ·rename_i e1 e2 e3;rw[e2] at hc;exact aP (hc _ (by simp))
  ·rename_i e1 e2;rw[e2] at hc;rw[aP (hc _ (by simp))];congr 1;funext a
   exact aP (hc _ (by simp))
  ·rename_i e1 e2;rw[e2] at hc;rw[aP (hc _ (by simp))];congr 1;funext a
   exact aP (hc _ (by simp))
  ·rename_i e1 e2;rw[e2] at hc;rw[aP (hc _ (by simp))];congr 1;funext a
   rw[aP (hc _ (by simp))];congr 1;funext a
   exact aP (hc _ (by simp))
  ·rename_i e1 e2;rw[e2] at hc;rw[aP (hc _ (by simp))];congr 1;funext a
   rw[aP (hc _ (by simp))];congr 1;funext a
   exact aP (hc _ (by simp))
  ·rfl
 |_=>rfl
structure Local(P:Program)(all:List Oper)(o:Oper)(s:St)(x:AV):Prop where
 run: ∀(j0:J0) j a w (next:Act->World->Prop) (Q:Exit->Act->World->Prop),Rel j0 (s.bf (looks all o)) j a w->Region.wanted o (yielded all.toArray a.tmps)=true->
  (∀w' v,aS w' j s.σ->Ev j w j w'->R w' j x v->next (a.put o.dst v) w')->o.wpIn (FW j0.rd) 0 P a w next Q
 skip: ∀j0 j a w,Rel j0 (s.bf (looks all o)) j a w->Region.wanted o (yielded all.toArray a.tmps)=false->R w j x Go.undef
theorem js_same{j j':Js}(hl:j'.length=j.length)(h:Ag j j' []):j'=j:=by
 apply List.ext_getElem?;intro b;rcases Nat.lt_or_ge b j.length with hb|hb
 ·exact h b hb (by simp)
 ·rw[List.getElem?_eq_none (by omega),List.getElem?_eq_none hb]
theorem U5{all:List Oper}{o:Oper}{s:St}{K:Bool->Bool->Prop} :jA all (s.bf (looks all o)) o K=jA all s o K:=by
 unfold jA;split
 ·rfl
 ·rename_i jx want hg;have:gvA all (s.bf (looks all o)) jx=gvA all s jx:=by
   unfold gvA;rw[jc];split
   ·rename_i g hjx;split
    ·rename_i d hd;simp only[St.bf,iE];rw[if_pos];simp[looks,gTmps,hg,hjx,hd]
    ·rfl
   ·rfl
  rw[this]
theorem F5{P:Program}{all:List Oper}{o:Oper}{s:St}{K:St->Prop}(h:jA all s o fun gd g=>UK P true gd g o s K): ∃x,Local P all o s x/\K (s.put o.dst x):=by
 rw[←U5] at h;obtain⟨gd,g,h,hgd,hw⟩:=o8 h;have hmem: ∀x∈o.op.operands,∀t,x= .tmp t->t∈looks all o:=fun x hx t ht=>List.mem_append.2 (.inl (rG hx ht));have DI: ∀{op:Op},o.op=op->pv P g s op (fun av=>K (s.put o.dst (oP gd g av)))->∃x,Local P all o s x/\K (s.put o.dst x):=by
  intro op ho hp;have hnd: ∀c,o.op≠.defer c:=by rw[ho];exact NU hp
  rw[←ho,←Xm hmem] at hp;obtain⟨av,h1,h2⟩:=NT hp;refine⟨_,⟨fun j0 j a w next Q hr hwt hn=> ?_,fun j0 j a w hr hwf=> ?_⟩,h1⟩
  ·have hg:g=true:=by rw[←hw hr];exact hwt
   obtain⟨v,h3,h4⟩:=h2 hg j0 j a w o rfl hr;refine uM hnd h3 ?_;refine hn w v hr.cZ (.refl _ _) ?_;cases gd with
   |false=>exact h4
   |true=>exact .iff (fun _=>h4) (fun hf=>by rw[hg] at hf;cases hf)
  ·have hg:g=false:=by rw[←hw hr];exact hwf
   cases gd with
   |false=>rw[hgd rfl] at hg;cases hg
   |true=>exact .iff (fun ht=>by rw[hg] at ht;cases ht) (fun _=>rfl)
 unfold UK at h;split at h;all_goals first
  |exact absurd h.1 (by simp)
  |exact DI (by assumption) h
  |skip
 ·rename_i t len ps ho;rw[←wX (L:=looks all o) (fun x hx t ht=>hmem x.2 (by
   simp only[ho,Op.operands,List.mem_toArray,List.mem_map];exact⟨x,hx,rfl⟩) t ht)] at h
  obtain⟨parts,h,hl,hp⟩:=mW h;obtain⟨av,hK,hb⟩:=PL h;refine⟨_,⟨fun j0 j a w next Q hr hwt hn=> ?_,fun j0 j a w hr hwf=> ?_⟩,hK⟩
  ·have hg:g=true:=by rw[←hw hr];exact hwt
   obtain⟨v,w',r,h1,h2,h3,h4,rfl⟩:=PO (P:=P) ho hg hr hb hl hp;refine uM (by simp[ho]) h1 ?_;refine hn w' v h2 h4 ?_;cases gd with
   |false=>exact h3
   |true=>exact .iff (fun _=>h3) (fun hf=>by rw[hg] at hf;cases hf)
  ·have hg:g=false:=by rw[←hw hr];exact hwf
   cases gd with
   |false=>rw[hgd rfl] at hg;cases hg
   |true=>exact .iff (fun ht=>by rw[hg] at ht;cases ht) (fun _=>rfl)
 ·rename_i src dst x ho;split at h
  ·exact absurd h.1 (by simp)
  ·exact DI ho h
 ·rename_i op t x y ty ho;split at h
  ·exact absurd h.1 (by simp)
  ·exact DI ho h
 ·rename_i c ho;split at h
  ·rename_i b hb;have hma: ∀x∈c.args.toList,∀t,x= .tmp t->t∈looks all o:=fun x hx=>hmem x (by
    simp only[ho,Op.operands,Call.operands,Array.mem_append];exact .inr (by simpa using hx))
   split at h
   ·dsimp only at h;split at h
    ·rename_i x y t t' e1 e2;rw[e1] at hma;rw[←aP (hma x (by simp))] at h;obtain⟨xa,h,hx⟩:=aB h;rw[←aP (hma y (by simp))] at h;obtain⟨ya,h,hy⟩:=aB h;obtain⟨av,hK,hb2⟩:=appendD_eq h;refine⟨_,⟨fun j0 j a w next Q hr hwt hn=> ?_,fun j0 j a w hr hwf=> ?_⟩,hK⟩
     ·have hg:g=true:=by rw[←hw hr];exact hwt
      have hx':=hx hg j0 j a w hr;have hy':=hy hg j0 j a w hr;obtain⟨v,w',r,h1,h2,h3,h4,rfl⟩:=DZ (P:=P) (ty:=o.type) hr.cZ hb2 hx' hy';have hrun:(execOp a.eval o).run P w= .ok (.value v) w':=by
       have e3:c.args.map a.eval= #[a.eval x,a.eval y]:=by
        apply Array.ext';rw[Array.toList_map,e1];rfl
       have e4:c.argTypes= #[t,t']:=by apply Array.ext';simpa using e2
       simp only[execOp,ho,resolve,hb];rw[e3];simp[invoke,builtin,e4,h1]
      refine uM (by simp[ho]) hrun ?_;refine hn w' v h2 h4 ?_;cases gd with
      |false=>exact h3
      |true=>exact .iff (fun _=>h3) (fun hf=>by rw[hg] at hf;cases hf)
     ·have hg:g=false:=by rw[←hw hr];exact hwf
      cases gd with
      |false=>rw[hgd rfl] at hg;cases hg
      |true=>exact .iff (fun ht=>by rw[hg] at ht;cases ht) (fun _=>rfl)
    ·exact h.elim
   ·exact absurd h.1 (by simp)
   ·exact absurd h.1 (by simp)
   ·exact DI ho h
  ·rename_i f hf;have hmf: ∀t,f= .tmp t->t∈looks all o:=hmem f (by simp[ho,Op.operands,Call.operands,hf]);have hma: ∀x∈c.args.toList,∀t,x= .tmp t->t∈looks all o:=fun x hx=>hmem x (by
    simp only[ho,Op.operands,Call.operands,Array.mem_append];exact .inr (by simpa using hx))
   rw[←aP hmf] at h;obtain⟨fa,h,hfa⟩:=aB h;replace hfa:=TB hfa
   revert h hfa
   generalize Hl fa=fa'
   intro h hfa;split at h
   ·rw[←sD hma] at h;obtain⟨CJ,h,hl,ha⟩:=ku h;obtain⟨r,h1,h2⟩:=h;refine⟨_,⟨fun j0 j a w next Q hr hwt hn=> ?_,fun j0 j a w hr hwf=> ?_⟩,h2⟩
    ·have hg:g=true:=by rw[←hw hr];exact hwt
     have hcs:=h1 hg;have hfv:=hfa hg j0 j a w hr;have hen:=hcs.1;generalize hv:a.eval f=u at hfv
     cases hfv with
     |clo ff cc g2 g3 g4 g5=>
      refine uM (by simp[ho]) (PG (P:=P) (w:=w) ho hf hv hen) ?_;refine⟨by simp[FW],Hw ?_⟩;have hrs:=l7 (l7 ⟨g2,g4⟩ (Fe hg hl ha hr)) ⟨g3,g5⟩;have e:(c.args.toList.map a.eval).toArray=c.args.map a.eval:=by apply Array.ext';simp
      rw[e,List.append_assoc] at hrs;refine(hcs.2 j w _ hr.cZ hrs).mono ?_;rintro e w' ⟨v,r',σ',j',X,rfl,h6,h7,h8,h9,h10,rfl,rfl,rfl⟩;have hj:j'=j:=js_same (by rw[h6.len,hr.cZ.len];rfl) h10;subst hj;refine hn w' v h6 h8 ?_;cases gd with
      |false=>exact h7
      |true=>exact .iff (fun _=>h7) (fun hf=>by rw[hg] at hf;cases hf)
    ·have hg:g=false:=by rw[←hw hr];exact hwf
     cases gd with
     |false=>rw[hgd rfl] at hg;cases hg
     |true=>exact .iff (fun ht=>by rw[hg] at ht;cases ht) (fun _=>rfl)
   ·obtain⟨CJ,h,hl,ha⟩:=ku h;exact h.elim
   ·exact h.elim
  ·exact h.elim
 ·exact DI rfl h
def dF(s:St)(os:List Oper)(xs:Nat->AV):Nat->St
 |0=>s
 |i+1=>match os[i]? with
  |some o=>(dF s os xs i).put o.dst (xs i)
  |none=>dF s os xs i
theorem unroll{P:Program}{all:List Oper} : ∀{os:List Oper} {s:St} {K:St->Prop},bI P true all os s K->∃xs:Nat->AV,K (dF s os xs os.length)/\∀i o,os[i]? =some o->Local P all o (dF s os xs i) (xs i)
 |[],s,K,h=>⟨fun _=> .undef,h,by simp⟩
 |o::os,s,K,h=>by
  obtain⟨x,hl,h⟩:=F5 h;obtain⟨xs,hK,hloc⟩:=unroll h;have hst: ∀i,dF s (o::os) (fun|0=>x|i+1=>xs i) (i+1)=dF (s.put o.dst x) os xs i:=by
   intro i;induction i with
   |zero=>rfl
   |succ i ih=>
    show(match(o::os)[i+1]? with|some o'=>(dF s (o::os) (fun|0=>x|i+1=>xs i) (i+1)).put o'.dst (xs i)|none=>dF s (o::os) (fun|0=>x|i+1=>xs i) (i+1))=_
    rw[ih];simp only[List.getElem?_cons_succ];rfl
  refine⟨fun|0=>x|i+1=>xs i,?_,fun i o' hi=> ?_⟩
  ·rw[List.length_cons,hst];exact hK
  ·cases i with
   |zero=>simp at hi;subst hi;exact hl
   |succ i=>rw[hst];exact hloc i o' (by simpa using hi)
theorem sV(s:St)(os:List Oper)(xs:Nat->AV): ∀i,(dF s os xs i).N=s.N/\(dF s os xs i).σ=s.σ/\(dF s os xs i).mv=s.mv
 |0=>⟨rfl,rfl,rfl⟩
 |i+1=>by
  have ih:=sV s os xs i;simp only[dF];split
  ·rename_i o _;simp only[St.put];split
   ·exact ih
   ·split<;>exact ih
  ·exact ih
theorem IQ{s:St}{dst:Option Tmp}{x:AV}{k:Nat} :get (s.put dst x).t k=if dst=some k then(if k<s.N then some x else none) else get s.t k:=by
 cases dst with
 |none=>simp[St.put]
 |some d=>
  simp only[St.put,Option.some.injEq];by_cases hd:d<s.N
  ·rw[if_pos (by simpa using hd)];simp only[get_put];by_cases hk:d=k
   ·subst hk;simp[hd]
   ·simp[hk]
  ·rw[if_neg (by simpa using hd)];simp only[Cj];by_cases hk:d=k
   ·subst hk;simp[hd]
   ·simp[hk]
theorem DV{s:St}{os:List Oper}{xs:Nat->AV}{k:Nat} : ∀{i:Nat},(∀p o,p<i->os[p]? =some o->o.dst≠some k)->get (dF s os xs i).t k=get s.t k
 |0,_=>rfl
 |i+1,h=>by
  simp only[dF];have ih:=DV (s:=s) (os:=os) (xs:=xs) (k:=k) (i:=i) (fun p o hp=>h p o (by omega));split
  ·rename_i o ho;rw[IQ,if_neg (h i o (by omega) ho)];exact ih
  ·exact ih
theorem DU{s:St}{os:List Oper}{xs:Nat->AV}{k q:Nat}{oq:Oper}(hq:os[q]? =some oq)(hd:oq.dst=some k): ∀{i:Nat},q<i->(∀p o,q<p->p<i->os[p]? =some o->o.dst≠some k)->get (dF s os xs i).t k=if k<s.N then some (xs q) else none
 |i+1,hqi,h=>by
  simp only[dF];by_cases hqe:q=i
  ·subst hqe;simp only[hq];rw[IQ,if_pos hd,(sV s os xs q).1]
  ·have ih:=DU (s:=s) (xs:=xs) hq hd (i:=i) (by omega) (fun p o h1 h2=>h p o h1 (by omega));split
   ·rename_i o ho;rw[IQ,if_neg (h i o (by omega) (by omega) ho)];exact ih
   ·exact ih
def QW(o:Oper)(p:Nat):Bool:=o.after.toList.any fun e=>Nat.beq e.on p&&Region.binds .any e
def dstIs(o:Oper)(k:Nat):Bool:=match o.dst with
 |some d=>Nat.beq d k
 |none=>false
theorem SV{o:Oper}{k:Nat} :dstIs o k=true↔o.dst=some k:=by
 unfold dstIs;split
 ·rename_i d hd;rw[hd];constructor
  ·intro h;rw[Nat.eq_of_beq_eq_true h]
  ·intro h;cases h;simp
 ·rename_i hd;rw[hd];simp
def okA(all:List Oper)(m i:Nat)(o:Oper):Bool:=
 (looks all o).all (fun k=>(List.range all.length).all fun p=>match all[p]? with
  |some op=> !dstIs op k||(if Nat.blt p i then QW o p else if Nat.beq p i then true else QW op i)
  |none=>true)&&
 (List.range m).all (fun p=>Nat.beq p i||(match all[p]?,o.dst with
  |some op,some d=> !dstIs op d
  |_,_=>true))
def Gx(all:List Oper)(m:Nat):Nat->Oper->Nat->Bool
 |0,o,p=>QW o p
 |n+1,o,p=>QW o p||(Nat.blt p m&&(List.range all.length).any fun r=>QW o r&&(Nat.ble m r||match all[r]? with
  |some x=>Gx all m n x p
  |none=>false))
def dW(all:List Oper)(m:Nat):Bool:=
 (List.range all.length).all fun i=>match all[i]? with
  |some o=>(o.after.toList.all fun e=> !Region.binds .any e||Nat.blt e.on i)&&(if Nat.blt i m then okA all m i o else(List.range i).all (Gx all m 12 o))
  |none=>true
theorem oH{o:Oper}{p:Nat}(h:QW o p=true): ∃e∈o.after,e.on=p/\Region.binds .any e=true:=by
 simp only[QW,List.any_eq_true,Bool.and_eq_true] at h;obtain⟨e,h1,h2,h3⟩:=h;exact⟨e,by simpa using h1,Nat.eq_of_beq_eq_true h2,h3⟩
theorem lt_of_getElem?{α:Type}{l:List α}{i:Nat}{x:α}(h:l[i]? =some x):i<l.length:=(List.getElem?_eq_some_iff.1 h).1
section
variable {P : Program} {ops : List Oper} {m : Nat}
theorem iP(h:dW ops m=true){i:Nat}{o:Oper}(hi:ops[i]? =some o):(∀e∈o.after,Region.binds .any e=true->e.on<i)/\(i<m->okA ops m i o=true)/\(m<=i->∀p,p<i->Gx ops m 12 o p=true):=by
 simp only[dW,List.all_eq_true,List.mem_range] at h;have:=h i (lt_of_getElem? hi);simp only[hi,Bool.and_eq_true,List.all_eq_true] at this;obtain⟨h1,h2⟩:=this;refine⟨fun e he hb=> ?_,fun hm=> ?_,fun hm p hp=> ?_⟩
 ·have:=h1 e (by simpa using he);simp only[hb,Bool.not_true,Bool.false_or] at this;simpa using this
 ·rw[if_pos (by simpa using hm)] at h2;exact h2
 ·rw[if_neg (by simpa using hm)] at h2;simp only[List.all_eq_true,List.mem_range] at h2;exact h2 p hp
theorem depT_far{p:Nat}(hp:m<=p): ∀{n:Nat} {o:Oper},Gx ops m n o p=true->QW o p=true
 |0,_,h=>h
 |n+1,o,h=>by
  simp only[Gx,Bool.or_eq_true,Bool.and_eq_true] at h;rcases h with h|h
  ·exact h
  ·have h1:p<m:=by simpa using h.1
   omega
theorem SX{p:Nat}{L:Nat->Bool}(hB: ∀q,m<=q->q<ops.length->L q=false)(hm: ∀q oq,q<m->ops[q]? =some oq->L q=true->∀e∈oq.after,Region.binds .any e=true->L e.on=true): ∀{n:Nat} {o:Oper},Gx ops m n o p=true->(∀e∈o.after,Region.binds .any e=true->L e.on=true)->L p=true
 |0,_,h,ho=>by
  obtain⟨e,h1,h2,h3⟩:=oH h;have:=ho e h1 h3;rwa [h2] at this
 |n+1,o,h,ho=>by
  simp only[Gx,Bool.or_eq_true,Bool.and_eq_true,List.any_eq_true,List.mem_range] at h;rcases h with h|⟨h1,r,h2,h3,h4⟩
  ·obtain⟨e,h1,h2,h3⟩:=oH h;have:=ho e h1 h3;rwa [h2] at this
  ·obtain⟨e,g1,g2,g3⟩:=oH h3;have hr:=ho e g1 g3;rw[g2] at hr;rcases Nat.lt_or_ge r m with h5|h5
   ·rcases h4 with h4|h4
    ·have:m<=r:=by simpa using h4
     omega
    ·split at h4
     ·rename_i x hx;exact SX hB hm h4 (hm r x h5 hx hr)
     ·cases h4
   ·rw[hB r h5 h2] at hr;cases hr
theorem phaseB(hok:dW ops m=true){Q:Exit->St->Prop}{j0:J0}{j1:Js}{w1:World} : ∀(d p:Nat) (s:St) (j:Js) (a:Act) (w:World) (listed:Array Bool),ops.length-p=d->m<=p->p<=ops.length->listed.size=ops.length->
  (∀k,k<ops.length->∀b,listed.getD k b=decide (k<p))->Rel j0 s j a w->Ev j1 w1 j w->bI P false ops (ops.drop p) s (Q .normal)->wpAnyIn (FW j0.rd) 0 P .any ops.toArray (D5 j0 j1 w1 Q) d listed a w:=by
 intro d;induction d with
 |zero=>
  intro p s j a w listed hd hm hp hs hL hr he h;have hpe:p=ops.length:=by omega
  subst hpe;refine⟨?_,⟨s,j,hr,he,by simpa[bI] using h⟩⟩;rw[List.eq_nil_iff_forall_not_mem];intro i hi;rw[mem_ready] at hi;obtain⟨h0,o,ho,_⟩:=hi;have hlt:i<ops.length:=lt_of_getElem? (by simpa using ho);rw[hL i hlt] at h0;simp[hlt] at h0
 |succ d ih=>
  intro p s j a w listed hd hm hp hs hL hr he h;have hpl:p<ops.length:=by omega
  have hop:ops[p]? =some ops[p]:=by simp[hpl]
  have hdrop:ops.drop p=ops[p]::ops.drop (p+1):=List.drop_eq_getElem_cons hpl;rw[hdrop] at h;have hsp:=iP hok hop;have OZ:p∈Region.ready .any ops.toArray listed:=by
   rw[mem_ready];refine⟨by rw[hL p hpl];simp,ops[p],by simp[hpl],fun e he hb=> ?_⟩;have:=hsp.1 e he hb;rw[hL e.on (by omega)];simpa using this
  refine⟨fun h0=>by rw[h0] at OZ;simp at OZ,fun i hi=> ?_⟩;rw[mem_ready] at hi;obtain⟨h0,o,ho,hall⟩:=hi;have ho':ops[i]? =some o:=by simpa using ho
  have hil:i<ops.length:=lt_of_getElem? ho';have hip:i=p:=by
   rw[hL i hil] at h0;have hge:p<=i:=by simpa using h0
   rcases Nat.eq_or_lt_of_le hge with h|h
   ·exact h.symm
   ·obtain⟨e,he1,he2,he3⟩:=oH (depT_far hm ((iP hok ho').2.2 (by omega) p h));have:=hall e he1 he3;rw[he2,hL p hpl] at this;simp at this
  subst hip;have hoe:o=ops[i]:=by simpa[hpl] using ho'.symm
  subst hoe;have hset: ∀k,k<ops.length->∀b,(listed.setIfInBounds i true).getD k b=decide (k<i+1):=by
   intro k hk b;by_cases hki:i=k
   ·subst hki;simp[hs,hpl]
   ·rw[getD_set_ne b hki,hL k hk];congr 1;apply propext;omega
  obtain⟨gd,g,h,hgd,hw⟩:=o8 h;obtain⟨h1,h2⟩:=BP h hgd;have hw:=hw hr;simp only[wpOpIn,ho,hw];cases g with
  |true=>
   simp only[if_true];exact h1 rfl j0 j a w _ _ hr fun s' j' a' w' hr' he' hK=>ih (i+1) s' j' a' w' _ (by omega) (by omega) (by omega) (by simpa using hs) hset hr' (he.trans he') hK
  |false=>
   simp only[Bool.false_eq_true,if_false];obtain⟨s',hK,hs'⟩:=h2 rfl;exact⟨fun _ _=>trivial,ih (i+1) s' j _ w _ (by omega) (by omega) (by omega) (by simpa using hs) hset (hs' j0 j a w hr) he hK⟩
def left(listed:Array Bool)(n:Nat):Nat:=((List.range n).filter fun k=> !listed.getD k true).length
theorem left_set{listed:Array Bool}{n i:Nat}(hs:listed.size=n)(hi:i<n)(h0:listed.getD i true=false):left listed n=left (listed.setIfInBounds i true) n+1:=by
 unfold left;have gen: ∀l:List Nat,l.Nodup->i∈l->(l.filter fun k=> !listed.getD k true).length=(l.filter fun k=> !(listed.setIfInBounds i true).getD k true).length+1:=by
  intro l;induction l with
  |nil=>simp
  |cons x l ih=>
   intro hn hm;simp only[List.nodup_cons] at hn;by_cases hx:x=i
   ·subst hx;have hrest:(l.filter fun k=> !listed.getD k true)=l.filter fun k=> !(listed.setIfInBounds x true).getD k true:=by
     apply List.filter_congr;intro k hk;have hne:x≠k:=fun he=>hn.1 (by rw[he];exact hk);rw[getD_set_ne true hne]
    have h1:(listed.setIfInBounds x true).getD x true=true:=by
     simp[show x<listed.size by omega]
    rw[List.filter_cons_of_pos (by rw[h0];rfl),List.filter_cons_of_neg (by rw[h1];simp),hrest,List.length_cons]
   ·have hm':i∈l:=by simpa[Ne.symm hx] using hm
    have ih:=ih hn.2 hm';have hxe:(listed.setIfInBounds i true).getD x true=listed.getD x true:=getD_set_ne true (Ne.symm hx);by_cases hb:listed.getD x true=true
    ·rw[List.filter_cons_of_neg (by rw[hb];simp),List.filter_cons_of_neg (by rw[hxe,hb];simp)];exact ih
    ·have hb:listed.getD x true=false:=by simpa using hb
     rw[List.filter_cons_of_pos (by rw[hb];rfl),List.filter_cons_of_pos (by rw[hxe,hb];rfl),List.length_cons,List.length_cons,ih]
 exact gen _ List.nodup_range (by simpa using hi)
theorem zH{i:Nat}{o:Oper}(h:okA ops m i o=true):(∀k∈looks ops o,∀p op,ops[p]? =some op->op.dst=some k->(p<i->QW o p=true)/\(i<p->QW op i=true))/\(∀p op d,p<m->p≠i->ops[p]? =some op->o.dst=some d->op.dst≠some d):=by
 simp only[okA,Bool.and_eq_true,List.all_eq_true,List.mem_range] at h;obtain⟨h1,h2⟩:=h;refine⟨fun k hk p op hp hd=> ?_,fun p op d hp hne hpo hd hpd=> ?_⟩
 ·have:=h1 k hk p (lt_of_getElem? hp);simp only[hp,SV.2 hd,Bool.not_true,Bool.false_or] at this;refine⟨fun hlt=> ?_,fun hlt=> ?_⟩
  ·rw[if_pos (by simpa using hlt)] at this;exact this
  ·rw[if_neg (by simp;omega),if_neg (by simp;omega)] at this;exact this
 ·have:=h2 p hp;simp only[hpo,hd,Bool.or_eq_true] at this;rcases this with h|h
  ·exact hne (Nat.eq_of_beq_eq_true h)
  ·rw[SV.2 hpd] at h;simp at h
theorem jU{i:Nat}(h:i<m):(ops.take m)[i]? =ops[i]? :=by rw[List.getElem?_take,if_pos h]
theorem iV{listed:Array Bool}{n q:Nat}(hs:listed.size=n)(hq:q<n):listed.getD q false=listed.getD q true:=by
 have hsz:q<listed.size:=by omega
 simp[hsz]
theorem EC{s:St}{xs:Nat->AV}{k:Nat}{i:Nat}(him:i<=m)(hw: ¬∃q oq,q<i/\ops[q]? =some oq/\oq.dst=some k):
  get (dF s (ops.take m) xs i).t k=get s.t k:=
 DV (fun p o h1 h2=>by
  rw[jU (by omega)] at h2;exact fun hd=>hw ⟨p,o,h1,h2,hd⟩)
theorem kW(hok:dW ops m=true)(hmn:m<=ops.length){s:St}{xs:Nat->AV}{q:Nat}{oq:Oper}{k:Nat}(hq:q<m)(hqo:ops[q]? =some oq)(QM:oq.dst=some k){i:Nat}(hqi:q<i)(him:i<=m):
  get (dF s (ops.take m) xs i).t k=if k<s.N then some (xs q) else none:=
 DU (oq:=oq) (by rw[jU hq];exact hqo) QM hqi (fun p o h1 h2 h3=>by
  rw[jU (by omega)] at h3;exact(zH ((iP hok hqo).2.1 hq)).2 p o k (by omega) (by omega) h3 QM)
structure Core(N:Nat)(t t1:List (Nat×AV))(U:AV->Prop)(ops:List Oper)(m:Nat)(j0:J0)(listed:Array Bool)(j:Js)(a:Act)(w:World):Prop where
 defers:Marks j0.n0 w j a.defers
 jw: ∀l,j0.rd=some l->∃r,w.heap[l]? =some (.loop r)
 size:a.tmps.size=N
 lsize:listed.size=ops.length
 lB: ∀k,m<=k->k<ops.length->∀b,listed.getD k b=false
 cl: ∀q oq,q<m->ops[q]? =some oq->listed.getD q true=true->∀e∈oq.after,Region.binds .any e=true->listed.getD e.on false=true
 c1: ∀q oq k av,q<m->ops[q]? =some oq->oq.dst=some k->listed.getD q true=true->get t1 k=some av->k<N/\R w j av (a.tmps.getD k Go.undef)
 c2: ∀k av,(∀q oq,q<m->ops[q]? =some oq->oq.dst=some k->listed.getD q true=false)->get t k=some av->k<N/\U av/\R w j av (a.tmps.getD k Go.undef)
section
variable {N : Nat} {t t1 : List (Nat × AV)} {U : AV -> Prop} {j0 : J0} {listed : Array Bool} {j : Js} {a : Act} {w : World}
theorem Core.start(hmn:m<=ops.length){σ:List aC}{mv:List Nat}(hr:Rel j0 ⟨N,t,σ,mv⟩ j a w)(hU: ∀k av,get t k=some av->U av):Core N t t1 U ops m j0 (Array.replicate ops.toArray.size false) j a w:=by
 have hf: ∀k b,k<ops.length->(Array.replicate ops.toArray.size false).getD k b=false:=by
  intro k b hk;simp[hk]
 refine⟨hr.defers,hr.jw,hr.size,by simp,fun k _ hk b=>hf k b hk,fun q oq hq hqo hl=> ?_,fun q oq k av hq hqo hd hl=> ?_,fun k av _ hk=>⟨(hr.tmp k av hk).1,hU k av hk,(hr.tmp k av hk).2⟩⟩
 ·rw[hf q true (by omega)] at hl;cases hl
 ·rw[hf q true (by omega)] at hl;cases hl
theorem xk:left (Array.replicate ops.toArray.size false) ops.length=ops.length:=by
 unfold left;have:(List.range ops.length).filter (fun k=> !(Array.replicate ops.toArray.size false).getD k true)=List.range ops.length:=by
  apply List.filter_eq_self.2;intro k hk;simp[show k<ops.length by simpa using hk]
 rw[this];simp
theorem Core.far(hC:Core N t t1 U ops m j0 listed j a w){o:Oper}(hall: ∀e∈o.after,Region.binds .any e=true->listed.getD e.on false=true){p n:Nat}(h:Gx ops m n o p=true):listed.getD p false=true:=
 SX (L:=fun q=>listed.getD q false) (fun q h1 h2=>hC.lB q h1 h2 false) (fun q oq h1 h2 h3 e he1 he2=>hC.cl q oq h1 h2 (by
  by_cases hs:q<listed.size
  ·simpa[hs] using h3
  ·simp[hs]) e he1 he2) h hall
theorem Core.looks(hok:dW ops m=true)(hmn:m<=ops.length)(hC:Core N t t1 U ops m j0 listed j a w){σ:List aC}{mv:List Nat}{xs:Nat->AV}(hxs:(dF ⟨N,t,σ,mv⟩ (ops.take m) xs m).t=t1){i:Nat}{o:Oper}(him:i<m)(ho:ops[i]? =some o)(h0:listed.getD i true=false)
  (hall: ∀e∈o.after,Region.binds .any e=true->listed.getD e.on false=true) {k:Nat} {av:AV} (hkl:k∈looks ops o) (hk:get (dF ⟨N,t,σ,mv⟩ (ops.take m) xs i).t k=some av):k<N/\R w j av (a.tmps.getD k Go.undef):=by
 have hokA:=zH ((iP hok ho).2.1 him);have hil:i<ops.length:=by omega
 by_cases hw: ∃q oq,q<i/\ops[q]? =some oq/\oq.dst=some k
 ·obtain⟨q,oq,hq,hqo,QM⟩:=hw;obtain⟨e,he1,he2,he3⟩:=oH ((hokA.1 k hkl q oq hqo QM).1 hq);have hlq:=hall e he1 he3;rw[he2,iV hC.lsize (by omega)] at hlq;rw[kW hok hmn (by omega) hqo QM hq (by omega)] at hk;exact hC.c1 q oq k av (by omega) hqo QM hlq (by rw[←hxs,kW hok hmn (by omega) hqo QM (by omega) (Nat.le_refl _)];exact hk)
 ·rw[EC (by omega) hw] at hk;have:=hC.c2 k av (fun q oq h1 h2 h3=>by
   rcases Nat.lt_trichotomy q i with h|h|h
   ·exact absurd ⟨q,oq,h,h2,h3⟩ hw
   ·subst h;exact h0
   ·obtain⟨e,he1,he2,he3⟩:=oH ((hokA.1 k hkl q oq h2 h3).2 h);by_cases hb:listed.getD q true=true
    ·have:=hC.cl q oq h1 h2 hb e he1 he3;rw[he2,iV hC.lsize hil,h0] at this;cases this
    ·simpa using hb) hk
  exact⟨this.1,this.2.2⟩
theorem Core.late(hok:dW ops m=true)(hmn:m<=ops.length)(hC:Core N t t1 U ops m j0 listed j a w){σ:List aC}{mv:List Nat}{xs:Nat->AV}(hxs:(dF ⟨N,t,σ,mv⟩ (ops.take m) xs m).t=t1){i:Nat}{o:Oper}(him:i<m)(ho:ops[i]? =some o)
  (hall: ∀e∈o.after,Region.binds .any e=true->listed.getD e.on false=true) (hself: ∀d,o.dst=some d->d∉aU.looks ops o) (tK: ∀q oq d,i<q->q<m->ops[q]? =some oq->oq.dst=some d->d∉aU.looks ops o)
  {k:Nat} {av:AV} (hkl:k∈aU.looks ops o) (hk:get t1 k=some av):k<N/\R w j av (a.tmps.getD k Go.undef):=by
 by_cases hw: ∃q oq,q<m/\ops[q]? =some oq/\oq.dst=some k
 ·obtain⟨q,oq,hq,hqo,QM⟩:=hw;have hqi:q<i:=by
   rcases Nat.lt_trichotomy q i with h|h|h
   ·exact h
   ·subst h;rw[ho] at hqo;cases hqo;exact absurd hkl (hself _ QM)
   ·exact absurd hkl (tK q oq k h hq hqo QM)
  obtain⟨e,he1,he2,he3⟩:=oH (((zH ((iP hok ho).2.1 him)).1 k hkl q oq hqo QM).1 hqi);have hlq:=hall e he1 he3;rw[he2,iV hC.lsize (by omega)] at hlq;exact hC.c1 q oq k av hq hqo QM hlq hk
 ·rw[←hxs,EC (Nat.le_refl _) hw] at hk;have:=hC.c2 k av (fun q oq h1 h2 h3=>absurd ⟨q,oq,h1,h2,h3⟩ hw) hk;exact⟨this.1,this.2.2⟩
theorem Core.done(hC:Core N t t1 U ops m j0 listed j a w){σ:List aC}{mv:List Nat}{xs:Nat->AV}(hxs:(dF ⟨N,t,σ,mv⟩ (ops.take m) xs m).t=t1)(hd: ∀q,q<m->listed.getD q true=true){k:Nat}{av:AV}(hk:get t1 k=some av):k<N/\R w j av (a.tmps.getD k Go.undef):=by
 by_cases hw: ∃q oq,q<m/\ops[q]? =some oq/\oq.dst=some k
 ·obtain⟨q,oq,hq,hqo,QM⟩:=hw;exact hC.c1 q oq k av hq hqo QM (hd q hq) hk
 ·rw[←hxs,EC (Nat.le_refl _) hw] at hk;have:=hC.c2 k av (fun q oq h1 h2 h3=>absurd ⟨q,oq,h1,h2,h3⟩ hw) hk;exact⟨this.1,this.2.2⟩
theorem Ir{o:Oper}{v:Value}{k:Nat}(hne:o.dst≠some k):(a.put o.dst v).tmps.getD k Go.undef=a.tmps.getD k Go.undef:=by
 cases hd:o.dst with
 |none=>rfl
 |some d=>
  have hdk:d≠k:=fun h=>hne (by rw[hd,h]);simp[Act.put,Array.getD_eq_getD_getElem?,hdk]
theorem Core.step(hok:dW ops m=true)(hmn:m<=ops.length)(hC:Core N t t1 U ops m j0 listed j a w){i:Nat}{o:Oper}(him:i<m)(ho:ops[i]? =some o)
  (hall: ∀e∈o.after,Region.binds .any e=true->listed.getD e.on false=true) {t' t1':List (Nat×AV)} {j':Js} {w':World} {v:Value} (hev:Ev j w j' w')
  (tr: ∀k P5,get t1' k=some P5->o.dst≠some k->∃av,get t1 k=some av/\∀x,R w j av x->R w' j' P5 x)
  (tr2: ∀k P5,get t' k=some P5->∃av,get t k=some av/\∀x,U av->R w j av x->U P5/\R w' j' P5 x)
  (hv: ∀k av,o.dst=some k->get t1' k=some av->k<N/\R w' j' av v):Core N t' t1' U ops m j0 (listed.setIfInBounds i true) j' (a.put o.dst v) w':=by
 have hokA:=zH ((iP hok ho).2.1 him);have hil:i<ops.length:=by omega
 have U2:i<listed.size:=by rw[hC.lsize];exact hil
 refine⟨?_,fun l hl=>(by obtain⟨r,hr⟩:=hC.jw l hl;exact hev.lps l r hr),?_,by simpa using hC.lsize,?_,?_,?_,?_⟩
 ·have:=hC.defers.mono hev;cases hd:o.dst<;>simpa[Act.put] using this
 ·cases hd:o.dst<;>simp[Act.put,hC.size]
 ·intro k hk1 hk2 b;rw[getD_set_ne b (by omega)];exact hC.lB k hk1 hk2 b
 ·intro q oq hq hqo hl e he1 he2;by_cases hqi:i=q
  ·subst hqi;obtain rfl:o=oq:=by rw[ho] at hqo;exact Option.some.inj hqo
   exact getD_set_true (hall e he1 he2)
  ·rw[getD_set_ne true hqi] at hl;exact getD_set_true (hC.cl q oq hq hqo hl e he1 he2)
 ·intro q oq k av hq hqo QM hl hk;by_cases hqi:i=q
  ·subst hqi;obtain rfl:o=oq:=by rw[ho] at hqo;exact Option.some.inj hqo
   have h1:=hv k av QM hk;simp only[Act.put,QM];rw[lH (w:=w) (j:=j) (by rw[hC.size];exact h1.1),if_pos rfl];exact h1
  ·rw[getD_set_ne true hqi] at hl;have hne:o.dst≠some k:=fun hd=>hokA.2 q oq k hq (fun h=>hqi h.symm) hqo hd QM;obtain⟨av0,h2,h3⟩:=tr k av hk hne;have h1:=hC.c1 q oq k av0 hq hqo QM hl h2;rw[Ir hne];exact⟨h1.1,h3 _ h1.2⟩
 ·intro k av hk hg;have hne:o.dst≠some k:=fun hd=>by
   have:=hk i o him ho hd;simp[U2] at this
  obtain⟨av0,h2,h3⟩:=tr2 k av hg;have h1:=hC.c2 k av0 (fun q oq h1 h2 h3=>by
   have hqi:i≠q:=fun h=>by subst h;rw[ho] at h2;cases h2;exact hne h3
   have:=hk q oq h1 h2 h3;rwa [getD_set_ne true hqi] at this) h2
  rw[Ir hne];exact⟨h1.1,h3 _ h1.2.1 h1.2.2⟩
end
theorem UF(hok:dW ops m=true)(hmn:m<=ops.length){Q:Exit->St->Prop}{j0:J0}{j1:Js}{w1:World}(Inv:Array Bool->Js->Act->World->Prop)
  (hB: ∀{listed j a w},Inv listed j a w->∃N t t1 U,Core N t t1 U ops m j0 listed j a w)
  (fin: ∀{listed j a w},Inv listed j a w->(∀q,q<m->listed.getD q true=true)->∃s',Rel j0 s' j a w/\bI P false ops (ops.drop m) s' (Q .normal))
  (step: ∀{listed j a w i o} {next:Act->World->Prop},Inv listed j a w->i<m->ops[i]? =some o->listed.getD i true=false->(∀e∈o.after,Region.binds .any e=true->listed.getD e.on false=true)->
   (∀j' v w',Inv (listed.setIfInBounds i true) j' (a.put o.dst v) w'->Ev j w j' w'->next (a.put o.dst v) w')->
   if Region.wanted o (yielded ops.toArray a.tmps) then o.wpIn (FW j0.rd) 0 P a w next (D5 j0 j1 w1 Q) else next (a.put o.dst Go.undef) w):
  ∀(fuel:Nat) (j:Js) (a:Act) (w:World) (listed:Array Bool),left listed ops.length=fuel->Inv listed j a w->Ev j1 w1 j w->wpAnyIn (FW j0.rd) 0 P .any ops.toArray (D5 j0 j1 w1 Q) fuel listed a w:=by
 intro fuel;induction fuel with
 |zero=>
  intro j a w listed hf hI he;obtain⟨_,_,_,_,hC⟩:=hB hI;have hall: ∀k,k<ops.length->listed.getD k true=true:=by
   intro k hk;by_cases hb:listed.getD k true=true
   ·exact hb
   ·have:k∈(List.range ops.length).filter fun k=> !listed.getD k true:=by
     rw[List.mem_filter];exact⟨by simpa using hk,by simpa using hb⟩
    have h0:(List.range ops.length).filter (fun k=> !listed.getD k true)=[]:=List.length_eq_zero_iff.1 hf;rw[h0] at this;simp at this
  have hme:m=ops.length:=by
   rcases Nat.lt_or_ge m ops.length with h|h
   ·have:=hall m h;rw[hC.lB m (Nat.le_refl _) h] at this;simp at this
   ·omega
  obtain⟨s',hr,hK⟩:=fin hI fun q hq=>hall q (by omega);exact phaseB hok 0 m _ j a w listed (by omega) (Nat.le_refl _) (by omega) hC.lsize (fun k hk b=>by
   have h1:=hall k hk;have hsz:k<listed.size:=by rw[hC.lsize];exact hk
   have h2:listed[k]=true:=by simpa[hsz] using h1
   simp[hsz,h2,show k<m by omega]) hr he hK
 |succ fuel ih=>
  intro j a w listed hf hI he;obtain⟨_,_,_,_,hC⟩:=hB hI;by_cases hdone: ∀q,q<m->listed.getD q true=true
  ·have hL: ∀k,k<ops.length->∀b,listed.getD k b=decide (k<m):=by
    intro k hk b;rcases Nat.lt_or_ge k m with h|h
    ·have h1:=hdone k h;have hsz:k<listed.size:=by rw[hC.lsize];exact hk
     have h2:listed[k]=true:=by simpa[hsz] using h1
     simp[hsz,h2,h]
    ·rw[hC.lB k h hk];simp;omega
   have hfuel:fuel+1=ops.length-m:=by
    rw[←hf];unfold left;have gen: ∀n,n<=ops.length->((List.range n).filter fun k=> !listed.getD k true).length=n-m:=by
     intro n;induction n with
     |zero=>simp
     |succ n ihn=>
      intro hn;rw[List.range_succ,List.filter_append,List.length_append,ihn (by omega)];have h1:=hL n (by omega) true;by_cases hnm:n<m
      ·have:(List.filter (fun k=> !listed.getD k true) [n]).length=0:=by
        rw[List.filter_cons_of_neg (by rw[h1];simp[hnm])];simp
       omega
      ·have:(List.filter (fun k=> !listed.getD k true) [n]).length=1:=by
        rw[List.filter_cons_of_pos (by rw[h1];simp;omega)];simp
       omega
    exact gen _ (Nat.le_refl _)
   obtain⟨s',hr,hK⟩:=fin hI hdone;exact phaseB hok (fuel+1) m _ j a w listed hfuel.symm (Nat.le_refl _) (by omega) hC.lsize hL hr he hK
  ·have hex: ∃q,q<m/\listed.getD q true=false/\∀p,p<q->listed.getD p true=true:=by
    have hex0: ∃q,q<m/\listed.getD q true=false:=by
     apply Classical.byContradiction;intro hne;apply hdone;intro q hq;by_cases hb:listed.getD q true=true
     ·exact hb
     ·exact absurd ⟨q,hq,by simpa using hb⟩ hne
    obtain⟨q,hq1,hq2⟩:=hex0;induction q using Nat.strongRecOn with
    |_ q ihq=>
     by_cases hall: ∀p,p<q->listed.getD p true=true
     ·exact⟨q,hq1,hq2,hall⟩
     ·have: ∃p,p<q/\listed.getD p true=false:=by
       apply Classical.byContradiction;intro hne;apply hall;intro p hp;by_cases hb:listed.getD p true=true
       ·exact hb
       ·exact absurd ⟨p,hp,by simpa using hb⟩ hne
      obtain⟨p,hp1,hp2⟩:=this;exact ihq p hp1 (by omega) hp2
   obtain⟨q0,hq0,hq0l,hq0all⟩:=hex;have hlt0:q0<ops.length:=by omega
   have OZ:q0∈Region.ready .any ops.toArray listed:=by
    rw[mem_ready];refine⟨hq0l,ops[q0],by simp[hlt0],fun e he hb=> ?_⟩;have h1:=(iP hok (i:=q0) (o:=ops[q0]) (by simp[hlt0])).1 e he hb;rw[iV hC.lsize (by omega)];exact hq0all e.on h1
   refine⟨fun h0=>by rw[h0] at OZ;simp at OZ,fun i hi=> ?_⟩;rw[mem_ready] at hi;obtain⟨h0,o,ho,hall⟩:=hi;have ho':ops[i]? =some o:=by simpa using ho
   have hil:i<ops.length:=lt_of_getElem? ho';have him:i<m:=by
    rcases Nat.lt_or_ge i m with h|h
    ·exact h
    ·have:=hC.far hall ((iP hok ho').2.2 h q0 (by omega));rw[iV hC.lsize hlt0,hq0l] at this;cases this
   have hs:=step hI him ho' h0 hall (next:=wpAnyIn (FW j0.rd) 0 P .any ops.toArray (D5 j0 j1 w1 Q) fuel (listed.setIfInBounds i true)) fun j' v w' h1 h2=>
    ih j' _ w' _ (by have:=left_set hC.lsize hil h0;omega) h1 (he.trans h2)
   simp only[wpOpIn,ho];by_cases hw:Region.wanted o (yielded ops.toArray a.tmps)=true
   ·rw[if_pos hw] at hs⊢;exact hs
   ·rw[if_neg hw] at hs⊢;exact⟨fun _ _=>trivial,hs⟩
end
section
variable {P : Program} {Q : Exit -> St -> Prop} {s : St}
theorem ak{id:Nat}{ops:List Oper}{y:Code}(h: ∀K:St->Prop,(∀s',dY P y Q s'->K s')->bI P false ops ops s K):dY P (.seq (.region id ops.toArray false) y) Q s:=
 aK (EL (h _ fun _ h=>h))
theorem aQ{id:Nat}{ops:List Oper}(h: ∀K:St->Prop,(∀s',Q .normal s'->K s')->bI P false ops ops s K):dY P (.region id ops.toArray false) Q s:=
 EL (h _ fun _ h=>h)
end
theorem Vy(b p:Bool):cond b p false=(b&&p):=by cases b<;>rfl
theorem YV(b q:Bool):cond b true q=(b||q):=by cases b<;>rfl
attribute [go_sem ↓] YB U9 Rest_mk jA UK vW arg args pv bin un intBin ZX MQ xF loadA qU uy VP x8 lenA lu xA BZ MP bnd Oj Kr LU uf makeA dZ VN LC Vk updA entA estA aaj nextA CO copyA capA yR
attribute [go_sem] Rest_mk aU.get aU.put aU.del St.put St.newVar St.after cellsOf jD Jv Value.oneCell' oP val ofConst isShift uw loaded St.init SA resA Ko kV jE gvA ql JQ LJ eq1 List.drop List.take List.map List.set List.length List.getElem?_cons_zero List.getElem?_cons_succ List.headD Nat.beq_eq Nat.ble_eq Nat.blt_eq Vy YV
attribute [go_sem] Rw cutN msOf UA akey Et XI aggD Key.str AV.free vP
attribute [congr] CSg_congr CSk_congr CSm_congr YSk_congr YSe_congr
attribute [go_sem] asClo_clo asClo_yld asClo_v asClo_v2
attribute [go_sem] List.nil_append List.cons_append List.append_nil
mutual
def AV.under(n:Nat):AV->Prop
 | .undef=>True
 | .iff b x=>b=true->x.under n
 | .d _=>True
 | .agg cs=>gK n cs
 | .eX cs=>gK n cs
 | .ptr b _=>b<n
 | .pe b _ _ _=>b<n
 | .el _=>True
 | .op _ _=>True
 | .ms b _ _ _=>b<n
 | .mc b _ _ _ _=>b<n
 | .mp b=>b<n
 | .clo _ fs cs=>gK n fs/\gK n cs
 | .xX b=>b<n
 | .fm _ _ _=>True
def gK(n:Nat):List AV->Prop
 |[]=>True
 |x::xs=>x.under n/\gK n xs
end
theorem lY{n:Nat} : ∀{cs:List AV} {k:Nat},gK n cs->k<cs.length->(cs.getD k .undef).under n
 |[],_,_,hk=>by simp at hk
 |x::xs,0,h,_=>by simp[gK] at h;simpa using h.1
 |x::xs,k+1,h,hk=>by
  simp[gK] at h;have:=lY (k:=k) h.2 (by simpa using hk);simpa using this
theorem RD.less{w:World}{j j':Js}(hs: ∀o,o∈j->o∈j'){d:D}{v:Value}(h:RD w j' d v):RD w j d v:=by
 induction h with
 |v x=>exact .v x
 |sl a c val hcap hle ha hlt hb hlen hcell hrel ih=>exact .sl a c val hcap hle ha hlt (fun hm=>hb (hs _ hm)) hlen hcell ih
 |zero p c hcap hp=>exact .zero p c hcap hp
theorem R.less{w:World}{j j':Js}(hs: ∀o,o∈j->o∈j')(ha: ∀b:Nat,b<j.length->j'[b]? =j[b]?){av:AV}{v:Value}(h:R w j' av v)(hu:av.under j.length):R w j av v:=by
 induction h with
 |undef v=>exact .undef v
 |iff h h0 ih=>exact .iff (fun hb=>ih hb (by simpa[AV.under,hb] using hu)) h0
 |d h=>exact .d (h.less hs)
 |agg vs hsz h ih=>exact .agg vs hsz fun k hk=>ih k hk (lY (by simpa[AV.under] using hu) hk)
 |eX vs hsz h ih=>exact .eX vs hsz fun k hk=>ih k hk (lY (by simpa[AV.under] using hu) hk)
 |ptr h=>exact .ptr (by rw[←ha _ (by simpa[AV.under] using hu)];exact h)
 |pe h=>exact .pe (by rw[←ha _ (by simpa[AV.under] using hu)];exact h)
 |el a val h1 hlt hb hcell hrel=>exact .el a val h1 hlt (fun hm=>hb (hs _ hm)) hcell fun k hk=>(hrel k hk).less hs
 |op h h0 ih=>exact .op (fun hb=>ih hb trivial) h0
 |ms c e m h h1 h2 h3=>exact .ms c e m (by rw[←ha _ (by simpa[AV.under] using hu)];exact h) h1 h2 h3
 |ms0 p h=>exact .ms0 p (by rw[←ha _ (by simpa[AV.under] using hu)];exact h)
 |sN p e m h h1 h2 h3=>exact .sN p e m (by rw[←ha _ (by simpa[AV.under] using hu)];exact h) h1 h2 h3
 |mc h q hv ih=>exact .mc (ih (by simpa[AV.under] using hu)) q hv
 |mp h=>exact .mp (by rw[←ha _ (by simpa[AV.under] using hu)];exact h)
 |xX h=>exact .xX (by rw[←ha _ (by simpa[AV.under] using hu)];exact h)
 |fm c cl es hlt hb xB hd=>exact .fm c cl es hlt (fun hm=>hb (hs _ hm)) xB ⟨hd.stamped,hd.keys,hd.kind,fun e he k hk=>(hd.rel e he k hk).less hs⟩
 | @clo fn fs cs ff cc h1 h2 h3 h4 ih3 ih4=>
  have hb:gK j.length fs/\gK j.length cs:=by simpa[AV.under] using hu
  exact .clo ff cc h1 h2 (fun k hk=>ih3 k hk (lY hb.1 hk)) (fun k hk=>ih4 k hk (lY hb.2 hk))
theorem zQ{j:Js}{b:Nat}{o:Option Nat}(h:j[b]? =some o):b<j.length:=(List.getElem?_eq_some_iff.1 h).1
theorem R.shrink{w w':World}{j j' jt:Js}(hs: ∀o,o∈jt->o∈j')(ha: ∀b:Nat,b<j.length->j'[b]? =jt[b]?){av:AV}{u:Value}(h2:R w j av u): ∀{v:Value},R w' j' av v->R w' jt av v:=by
 have key: ∀{b:Nat} {o o'},j[b]? =some o->j'[b]? =some o'->jt[b]? =some o':=fun h h'=>by rw[←ha _ (zQ h)];exact h'
 induction h2 with
 |undef v=>exact fun _=> .undef _
 |iff h h0 ih=>
  intro v h1;cases h1 with
  |iff h1 h10=>exact .iff (fun hb=>ih hb (h1 hb)) h10
 |d h=>
  intro v h1;cases h1 with|d h1=>exact .d (h1.less hs)
 |agg vs hsz h ih=>
  intro v h1;cases h1 with
  |agg vs' hsz' h'=>exact .agg vs' hsz' fun k hk=>ih k hk (h' k hk)
 |eX vs hsz h ih=>
  intro v h1;cases h1 with
  |eX vs' hsz' h'=>exact .eX vs' hsz' fun k hk=>ih k hk (h' k hk)
 |ptr h=>
  intro v h1;cases h1 with|ptr h1=>exact .ptr (key h h1)
 |pe h=>
  intro v h1;cases h1 with|pe h1=>exact .pe (key h h1)
 |el a val h1 hlt hb hcell hrel=>
  intro v h1;cases h1 with
  |el a' val' g1 g2 g3 g4 g5=>exact .el a' val' g1 g2 (fun hm=>g3 (hs _ hm)) g4 fun k hk=>(g5 k hk).less hs
 |op h h0 ih=>
  intro v h1;cases h1 with|op h1 h10=>exact .op (fun hb=>ih hb (h1 hb)) h10
 |ms c e m h _ _ _=>
  intro v h1;cases h1 with
  |ms c' e' m' g1 g2 g3 g4=>exact .ms c' e' m' (key h g1) g2 g3 g4
  |ms0 p g1=>exact .ms0 p (key h g1)
  |sN p e' m' g1 g2 g3 g4=>exact .sN p e' m' (key h g1) g2 g3 g4
 |ms0 p h=>
  intro v h1;cases h1 with
  |ms c' e' m' g1 g2 g3 g4=>exact .ms c' e' m' (key h g1) g2 g3 g4
  |ms0 p g1=>exact .ms0 p (key h g1)
  |sN p e' m' g1 g2 g3 g4=>exact .sN p e' m' (key h g1) g2 g3 g4
 |sN p e m h _ _ _=>
  intro v h1;cases h1 with
  |ms c' e' m' g1 g2 g3 g4=>exact .ms c' e' m' (key h g1) g2 g3 g4
  |ms0 p g1=>exact .ms0 p (key h g1)
  |sN p e' m' g1 g2 g3 g4=>exact .sN p e' m' (key h g1) g2 g3 g4
 |mc h q hv ih=>
  intro v h1;cases h1 with|mc h1 q' hv'=>exact .mc (ih h1) q' hv'
 |mp h=>
  intro v h1;cases h1 with|mp h1=>exact .mp (key h h1)
 |xX h=>
  intro v h1;cases h1 with|xX h1=>exact .xX (key h h1)
 |fm _ _ _ _ _ _ _=>
  intro v h1;cases h1 with|fm c cl es hlt hb xB hd=>exact .fm c cl es hlt (fun hm=>hb (hs _ hm)) xB ⟨hd.stamped,hd.keys,hd.kind,fun e he k hk=>(hd.rel e he k hk).less hs⟩
 |clo ff cc h1 h2 h3 h4 ih3 ih4=>
  intro v h1;cases h1 with
  |clo ff' cc' g1 g2 g3 g4=>exact .clo ff' cc' g1 g2 (fun k hk=>ih3 k hk (g3 k hk)) (fun k hk=>ih4 k hk (g4 k hk))
def AP(n:Nat):aC->Prop
 | .var cs=> ∀k,k<cs.length->(cs.getD k .undef).under n
 | .lp L _ _=> ∀k av,(k,av)∈L.t->av.under n
 |_=>True
theorem R.under{w:World}{j:Js}{av:AV}{v:Value}(h:R w j av v):av.under j.length:=by
 have all: ∀{cs:List AV},(∀k,k<cs.length->(cs.getD k .undef).under j.length)->gK j.length cs:=by
  intro cs;induction cs with
  |nil=>intro _;trivial
  |cons x xs ih=>
   intro hx;exact⟨by simpa using hx 0 (by simp),ih fun k hk=>by simpa using hx (k+1) (by simpa using hk)⟩
 induction h with
 |undef v=>trivial
 |iff h h0 ih=>exact ih
 |d h=>trivial
 |agg vs hsz h ih=>exact all ih
 |eX vs hsz h ih=>exact all ih
 |ptr h=>exact zQ h
 |pe h=>exact zQ h
 |el a val h1 hlt hb hcell hrel=>trivial
 |op h h0 ih=>trivial
 |ms c e m h h1 h2 h3=>exact zQ h
 |ms0 p h=>exact zQ h
 |sN p e m h=>exact zQ h
 |mc h q hv ih=>exact ih
 |mp h=>exact zQ h
 |clo ff cc h1 h2 h3 h4 ih3 ih4=>exact⟨all ih3,all ih4⟩
 |xX h=>exact zQ h
 |fm _ _ _ _ _ _ _=>trivial
theorem wF{n:Nat}{X:List Nat}(hX: ∀b∈X,n<=b)(av:AV):av.under n->av.avoids X=true:=by
 have key: ∀b,b<n->X.contains b=false:=fun b hb=>by
  simp only[List.contains_eq_mem,decide_eq_false_iff_not];intro hm;have:=hX b hm;omega
 induction av using AV.rec (motive_2:=fun l=>gK n l->dK X l=true) with
 |undef=>intro _;rfl
 |iff b x ih=>intro h;cases b with
  |false=>rfl
  |true=>simpa[AV.avoids] using ih (h rfl)
 |d x=>intro _;rfl
 |agg cs ih=>intro h;exact ih h
 |eX cs ih=>intro h;exact ih h
 |ptr b off=>intro h;simp only[AV.avoids,key b h];rfl
 |pe b sz i k=>intro h;simp only[AV.avoids,key b h];rfl
 |el cs=>intro _;rfl
 |op b cs=>intro _;rfl
 |ms b sz lo m=>intro h;simp only[AV.avoids,key b h];rfl
 |mc b sz lo m c=>intro h;simp only[AV.avoids,key b h];rfl
 |mp b=>intro h;simp only[AV.avoids,key b h];rfl
 |clo fn fs cs ih1 ih2=>intro h;simp only[AV.avoids,ih1 h.1,ih2 h.2];rfl
 |xX b=>intro h;simp only[AV.avoids,key b h];rfl
 |fm d ks f=>intro _;rfl
 |nil=>rfl
 |cons x xs ih1 ih2=>rename_i h;simp only[dK,ih1 h.1,ih2 h.2];rfl
def sF(σ:List aC):Prop:= ∀X,(∀b∈X,σ.length<=b)->σ.map (bW X)=σ
theorem R.vP{w:World}{j j':Js}(hs: ∀o,o∈j->o∈j'){av:AV}{v:Value}(h:R w j' av v):av.free=true->R w j av v:=by
 have el: ∀{cs:List AV} {k:Nat},aU.vP cs=true->k<cs.length->(cs.getD k .undef).free=true:=by
  intro cs;induction cs with
  |nil=>intro k _ hk;simp at hk
  |cons x xs ih=>
   intro k hf hk;simp only[aU.vP,Bool.and_eq_true] at hf;cases k with
   |zero=>simpa using hf.1
   |succ k=>simpa using ih hf.2 (by simpa using hk)
 induction h with
 |undef v=>exact fun _=> .undef v
 |iff h h0 ih=>exact fun hf=> .iff (fun hb=>ih hb (by simpa[AV.free,hb] using hf)) h0
 |d h=>exact fun _=> .d (h.less hs)
 |agg vs hsz h ih=>exact fun hf=> .agg vs hsz fun k hk=>ih k hk (el hf hk)
 |eX vs hsz h ih=>exact fun hf=> .eX vs hsz fun k hk=>ih k hk (el hf hk)
 |el a val h1 hlt hb hcell hrel=>exact fun _=> .el a val h1 hlt (fun hm=>hb (hs _ hm)) hcell fun k hk=>(hrel k hk).less hs
 |op h h0 ih=>exact fun _=> .op (fun hb=>ih hb rfl) h0
 |clo ff cc h1 h2 h3 h4 ih3 ih4=>
  intro hf;simp only[AV.free,Bool.and_eq_true] at hf;exact .clo ff cc h1 h2 (fun k hk=>ih3 k hk (el hf.1 hk)) (fun k hk=>ih4 k hk (el hf.2 hk))
 |ptr h=>intro hf;cases hf
 |pe h=>intro hf;cases hf
 |ms c e m h h1 h2 h3=>intro hf;cases hf
 |ms0 p h=>intro hf;cases hf
 |sN p e m h h1 h2 h3=>intro hf;cases hf
 |mc h q hv ih=>intro hf;cases hf
 |mp h=>intro hf;cases hf
 |xX h=>intro hf;cases hf
 |fm c cl es hlt hb xB hd=>exact fun _=> .fm c cl es hlt (fun hm=>hb (hs _ hm)) xB ⟨hd.stamped,hd.keys,hd.kind,fun e he k hk=>(hd.rel e he k hk).less hs⟩
theorem ji.less{w:World}{j j':Js}(hs: ∀o,o∈j->o∈j'){es:Array MapEntry}{cl:Nat}{d:Bool}{ks:List Key}{f:Key->AV}(h:ji w j' es cl d ks f):ji w j es cl d ks f:=
 ⟨h.stamped,h.keys,h.kind,h.free,fun e hm k hk=>(h.rel e hm k hk).vP hs (h.free k)⟩
theorem sJ.less{w:World}{j j':Js}(hs: ∀o,o∈j->o∈j'){mb:Nat}{es:Array MapEntry}{cl:Nat}{seen:Array Nat}{left:List Key}{cur:Option Key}{f:Key->AV}(h:sJ w j' mb es cl seen left cur f):sJ w j mb es cl seen left cur f:=
 ⟨h.lt,fun hm=>h.own (hs _ hm),h.heap,h.stamped,h.keys,h.cur,h.free,fun e hm k hk=>(h.rel e hm k hk).vP hs (h.free k)⟩
theorem RB.under{w:World}{j:Js}{x:aC}{o:Option Nat}(h:RB w j x o):AP j.length x:=by
 cases x with
 |dead=>trivial
 |loc c=>trivial
 |tab c vs=>trivial
 |arr sz n row=>trivial
 |mp d ks f=>trivial
 |QH d ks f κ q=>trivial
 |it left cur f=>trivial
 |var cs=>
  cases o with
  |none=>exact h.elim
  |some cb=>
   obtain⟨C,e,h1,h2,h3⟩:=h;exact fun k hk=>(h3 k hk).under
 |lp L st pd=>
  cases o with
  |none=>exact h.elim
  |some cb=>
   obtain⟨r,h1,h2,h3,h4⟩:=h;exact fun k av hk=>(h4 k av hk).2.under
theorem aS.wf{w:World}{j:Js}{σ:List aC}(h:aS w j σ):sF σ:=by
 intro X hX;apply List.ext_getElem?;intro b;rw[List.getElem?_map];cases hb:σ[b]? with
 |none=>rfl
 |some x=>
  obtain⟨o,ho,hB⟩:=h.blk b x hb;have hu:=hB.under;rw[h.len] at hu;simp only[Option.map_some,Option.some.injEq];cases x with
  |dead=>rfl
  |loc c=>rfl
  |tab c vs=>rfl
  |arr sz n row=>rfl
  |mp d ks f=>rfl
  |QH d ks f κ q=>rfl
  |it left cur f=>rfl
  |var cs=>
   simp only[bW,aC.var.injEq];apply List.ext_getElem?;intro k;rw[List.getElem?_map];cases hk:cs[k]? with
   |none=>rfl
   |some c=>
    have hlt:k<cs.length:=lt_of_getElem? hk;have:=hu k hlt;rw[List.getD_eq_getElem?_getD,hk] at this;simp only[Option.map_some,Option.some.injEq];rw[if_pos (wF hX c (by simpa using this))]
  |lp L st pd=>
   simp only[bW,aC.lp.injEq,and_true];rw[Ic fun k av hk=>wF hX av (hu k av hk)]
theorem sF.one{σ:List aC}(h:sF σ)(k:Nat):σ.map (bW [σ.length+k])=σ:=h _ (by simp)
theorem sF.zero{σ:List aC}(h:sF σ):σ.map (bW [σ.length])=σ:=h _ (by simp)
theorem RB.less{w:World}{j j':Js}(hs: ∀o,o∈j->o∈j')(ha: ∀b:Nat,b<j.length->j'[b]? =j[b]?){x:aC}{o:Option Nat}(h:RB w j' x o)(hu:AP j.length x):RB w j x o:=by
 cases x with
 |dead=>trivial
 |loc c=>
  obtain⟨h1,h2,h3,m,h4⟩:=h;exact⟨h1,h2,fun hm=>h3 (hs _ hm),m,h4⟩
 |tab c vs=>
  obtain⟨h1,h2,h3,e,h4,h5⟩:=h;exact⟨h1,h2,fun hm=>h3 (hs _ hm),e,h4,h5⟩
 |var cs=>
  cases o with
  |none=>exact h
  |some cb=>
   obtain⟨C,e,h1,h2,h3⟩:=h;exact⟨C,e,h1,h2,fun k hk=>(h3 k hk).less hs ha (hu k hk)⟩
 |arr sz n row=>
  cases o with
  |none=>exact h
  |some cb=>
   obtain⟨C,e,h1,h2,h3⟩:=h;exact⟨C,e,h1,h2,fun i hi=>⟨(h3 i hi).1,fun k hk=>((h3 i hi).2 k hk).less hs⟩⟩
 |lp L st pd=>
  cases o with
  |none=>exact h
  |some cb=>
   obtain⟨r,h1,h2,h3,h4⟩:=h;exact⟨r,h1,h2,h3,fun k av hk=>⟨(h4 k av hk).1,(h4 k av hk).2.less hs ha (hu k av hk)⟩⟩
 |mp d ks f=>
  cases o with
  |none=>exact h
  |some cb=>
   obtain⟨es,cl,h1,h2⟩:=h;exact⟨es,cl,h1,h2.less hs⟩
 |QH d ks f κ q=>
  cases o with
  |none=>exact h
  |some cb=>
   obtain⟨es,cl,h1,h2,hx⟩:=h;exact⟨es,cl,h1,h2.less hs,hx⟩
 |it left cur f=>
  cases o with
  |none=>exact h
  |some cb=>
   obtain⟨mb,es,cl,seen,h1,h2⟩:=h;exact⟨mb,es,cl,seen,h1,h2.less hs⟩
theorem RB.shrink{w w':World}{j j' jt:Js}(hs: ∀o,o∈jt->o∈j')(ha: ∀b:Nat,b<j.length->j'[b]? =jt[b]?){x:aC}{o o':Option Nat}(h2:RB w j x o)(h:RB w' j' x o'):RB w' jt x o':=by
 cases x with
 |dead=>trivial
 |loc c=>
  obtain⟨h1,h3,h4,m,h5⟩:=h;exact⟨h1,h3,fun hm=>h4 (hs _ hm),m,h5⟩
 |tab c vs=>
  obtain⟨h1,h3,h4,e,h5,h6⟩:=h;exact⟨h1,h3,fun hm=>h4 (hs _ hm),e,h5,h6⟩
 |var cs=>
  cases o with
  |none=>exact h2.elim
  |some cb=>
  cases o' with
  |none=>exact h
  |some cb'=>
   obtain⟨C,e,h1,h2',h3⟩:=h;obtain⟨C2,e2,g1,g2,g3⟩:=h2;exact⟨C,e,h1,h2',fun k hk=>(g3 k hk).shrink hs ha (h3 k hk)⟩
 |arr sz n row=>
  cases o' with
  |none=>exact h
  |some cb=>
   obtain⟨C,e,h1,h2,h3⟩:=h;exact⟨C,e,h1,h2,fun i hi=>⟨(h3 i hi).1,fun k hk=>((h3 i hi).2 k hk).less hs⟩⟩
 |lp L st pd=>
  cases o with
  |none=>exact h2.elim
  |some cb=>
  cases o' with
  |none=>exact h
  |some cb'=>
   obtain⟨r,h1,h3,h4,h5⟩:=h;obtain⟨r2,g1,g3,g4,g5⟩:=h2;exact⟨r,h1,h3,h4,fun k av hk=>⟨(h5 k av hk).1,(g5 k av hk).2.shrink hs ha (h5 k av hk).2⟩⟩
 |mp d ks f=>
  cases o' with
  |none=>exact h
  |some cb=>
   obtain⟨es,cl,h1,h9⟩:=h;exact⟨es,cl,h1,h9.less hs⟩
 |QH d ks f κ q=>
  cases o' with
  |none=>exact h
  |some cb=>
   obtain⟨es,cl,h1,h9,hx⟩:=h;exact⟨es,cl,h1,h9.less hs,hx⟩
 |it left cur f=>
  cases o' with
  |none=>exact h
  |some cb=>
   obtain⟨mb,es,cl,seen,h1,h9⟩:=h;exact⟨mb,es,cl,seen,h1,h9.less hs⟩
structure Leaves(nM σ':List aC):Prop where
 len:σ'.length=nM.length
 blk: ∀(b:Nat) x,σ'[b]? =some x->nM[b]? =some x\/AP nM.length x\/∃Y y,nM[b]? =some y/\x=bW Y y
theorem Leaves.refl(σ:List aC):Leaves σ σ:=⟨rfl,fun _ _ h=> .inl h⟩
theorem aS.drop{w w':World}{j j':Js}{nM σ' g:List aC}{X:List Nat}(h0:aS w j nM)(h:aS w' j' (σ'++g))(hl:Leaves nM σ')(hag:Ag j j' X)(hle:j.length<=j'.length):
  aS w' (j'.take j.length) σ'/\(∀o,o∈j'.take j.length->o∈j')/\(∀b:Nat,b<(j'.take j.length).length->j'[b]? =(j'.take j.length)[b]?):=by
 have hlen:(j'.take j.length).length=j.length:=by simp;omega
 have hs: ∀o,o∈j'.take j.length->o∈j':=fun o ho=>List.mem_of_mem_take ho;have ha: ∀b:Nat,b<(j'.take j.length).length->j'[b]? =(j'.take j.length)[b]? :=by
  intro b hb;rw[List.getElem?_take,if_pos (by omega)]
 have hget: ∀{b:Nat} {o},(j'.take j.length)[b]? =some o->j'[b]? =some o:=by
  intro b o hb;rw[List.getElem?_take] at hb;split at hb
  ·exact hb
  ·simp at hb
 refine⟨⟨by rw[hlen,h0.len,hl.len],fun b cb hb=>h.lt b cb (hget hb),fun b b' cb hb hb'=>h.inj b b' cb (hget hb) (hget hb'),fun b x hx=> ?_⟩,hs,ha⟩;have hbl:b<σ'.length:=(List.getElem?_eq_some_iff.1 hx).1;obtain⟨o,ho,hB⟩:=h.blk b x (by rw[List.getElem?_append_left hbl];exact hx);have hbj:b<(j'.take j.length).length:=by rw[hlen,h0.len,←hl.len];exact hbl
 refine⟨o,by rw[←ha b hbj];exact ho,?_⟩;rcases hl.blk b x hx with hx0|hu|⟨Y,y,hx0,rfl⟩
 ·obtain⟨o0,ho0,hB0⟩:=h0.blk b x hx0;exact hB0.shrink hs (fun q hq=>ha q (by omega)) hB
 ·exact hB.less hs ha (by rw[hlen,h0.len];exact hu)
 ·obtain⟨o0,ho0,hB0⟩:=h0.blk b y hx0;exact(hB0.Xf Y).shrink hs (fun q hq=>ha q (by omega)) hB
def rF(n:Nat)(X:List Nat):List Nat->Prop
 |[]=>True
 |x::xs=>(n<=x\/x∈X)/\rF n X xs
theorem Xz{n:Nat}{X:List Nat} : ∀{l:List Nat} {x:Nat},rF n X l->x∈l->n<=x\/x∈X
 |[],x,_,h=>by simp at h
 |y::ys,x,h,hx=>by
  rcases List.mem_cons.1 hx with rfl|hx
  ·exact h.1
  ·exact Xz h.2 hx
theorem Ag.rF{j j':Js}{mv X:List Nat}(h:Ag j j' mv)(hm:aU.rF j.length X mv):Ag j j' X:=fun b hb hn=>h b hb fun hmem=>by
 rcases Xz hm hmem with h1|h1
 ·omega
 ·exact hn h1
def Ll(P:Program)(fn:Func)(nM:List aC)(X:List Nat)(Q:AV->List aC->Prop)(s:St):Prop:=
 x8 P s fn.results.toList fun xs=> ∃σ' g,s.σ=σ'++g/\Leaves nM σ'/\(Ko xs).under nM.length/\rF nM.length X s.mv/\Q (Ko xs) σ'
def zo(P:Program)(fn:Func)(nM:List aC)(X:List Nat)(Q:AV->List aC->Prop):Exit->St->Prop
 | .normal,s=>Ll P fn nM X Q s
 | .ret,s=>Ll P fn nM X Q s
 |_,_=>False
theorem CS.Xv{P:Program}{f:FuncId}{fn:Func}{c:Code}{args:List AV}{σ:List aC}{Q:AV->List aC->Prop}(X:List Nat)(hen:dO P f=true)(hf:P.funcs[f]? =some fn)(hb:fn.body=some c)(hN:args.length<=fn.ntmps)
  (h:sF σ->dY P c (zo P fn σ X Q) (St.init fn.ntmps args σ)):CS P f args σ fun r σ' X'=>X'=X/\Q r σ':=by
 refine⟨hen,fun j w vs hs hr=>PE hf hb hN (h hs.wf) hs hr fun e s' hq=> ?_⟩;have fin:Ll P fn σ X Q s'->∀j' a w',Rel ⟨j,w.heap.size,none⟩ s' j' a w'->Ev j w j' w'->∃v,(results fn a.tmps).run P w'= .ok v w'/\∃v' r σ' j' X',Ending.returned v= .returned v'/\aS w' j' σ'/\R w' j' r v'/\Ev j w j' w'/\j.length<=j'.length/\Ag j j' X'/\X'=X/\Q r σ':=by
  intro hq j' a w' hrel hev;obtain⟨v,x,h1,h2,σ',g,h3,h4,h5,h6,h7⟩:=uo hrel (K:=fun x=> ∃σ' g,s'.σ=σ'++g/\Leaves σ σ'/\x.under σ.length/\rF σ.length X s'.mv/\Q x σ') hq;have mZ:=hrel.cZ;rw[h3] at mZ;have hlen0:j.length<=j'.length:=hrel.len0;have hag:Ag j j' X:=Ag.rF hrel.ag (by show rF j.length X s'.mv;rw[hs.len];exact h6);obtain⟨g1,g2,g3⟩:=hs.drop mZ h4 hag hlen0;have hlen:(j'.take j.length).length=j.length:=by simp;omega
  refine⟨v,h1,v,x,σ',j'.take j.length,X,rfl,g1,h2.less g2 g3 (by rw[hlen,hs.len];exact h5),⟨hev.size,hev.keep,fun b hb hm=>hev.sub b hb (g2 _ hm),hev.Xa,hev.uN,hev.os,hev.tape,hev.output,hev.lps⟩,by omega,fun b hb hn=> ?_,rfl,h7⟩;rw[←g3 b (by omega)];exact hag b hb hn
 cases e with
 |normal=>exact⟨.inl rfl,fin hq⟩
 |ret=>exact⟨.inr rfl,fin hq⟩
 |exit id=>exact hq.elim
 |goto l=>exact hq.elim
 |panic c=>exact hq.elim
 |outgrown=>exact hq.elim
def Same(x y:AV):Prop:= ∀w j v,R w j x v->R w j y v
theorem Same.refl(x:AV):Same x x:=fun _ _ _ h=>h
theorem Same.trans{x y z:AV}(h:Same x y)(k:Same y z):Same x z:=fun w j v hr=>k w j v (h w j v hr)
def dD:AV->AV->Prop
 | .d (.v a),.d (.v b)=>a=b
 | .d (.sl c sz n row),.d (.sl c' sz' n' row')=>(c'=none\/c'=c)/\sz=sz'/\n=n'/\∀i,i<n->row i=row' i
 | .d (.v (.slice none 0 0)),.d (.sl c' sz' n' row')=>(c'=none\/c'=some 0)/\n'=0
 |x,y=>x=y
theorem Same.d{x y:D}(h: ∀w j v,RD w j x v->RD w j y v):Same (.d x) (.d y):=fun w j v hr=>by
 cases hr with|d hr=>exact .d (h w j v hr)
theorem RD.rows{w:World}{j:Js}{c c':Option Nat}{sz n:Nat}{row row':Nat->List D}{v:Value}(hc:c'=none\/c'=c)(hr: ∀i,i<n->row i=row' i)(h:RD w j (.sl c sz n row) v):RD w j (.sl c' sz n row') v:=by
 have hcap: ∀q:Nat,(c=none\/c=some q)->(c'=none\/c'=some q):=fun q hq=>by
  rcases hc with rfl|rfl
  ·exact .inl rfl
  ·exact hq
 cases h with
 |sl a q val h1 h2 h3 h4 h5 h6 h7 h8=>exact .sl a q val (hcap q h1) h2 h3 h4 h5 (fun i hi=>by rw[←hr i hi];exact h6 i hi) h7 (fun i hi k hk=>by rw[←hr i hi];exact h8 i hi k hk)
 |zero p q h1 h2=>exact .zero p q (hcap q h1) h2
theorem dD.same{x y:AV}(h:dD x y):Same x y:=by
 unfold dD at h;split at h
 ·subst h;exact .refl _
 ·obtain⟨h1,rfl,rfl,h4⟩:=h;exact .d fun w j v hr=>hr.rows h1 h4
 ·obtain⟨h1,rfl⟩:=h;refine .d fun w j v hr=> ?_;cases hr
  exact .zero none 0 (by rcases h1 with rfl|rfl;exact .inl rfl;exact .inr rfl) (fun _=>rfl)
 ·subst h;exact .refl _
def jr:List AV->List AV->Prop
 |[],[]=>True
 |x::xs,y::ys=>dD x y/\jr xs ys
 |_,_=>False
theorem Jt: ∀{xs ys:List AV},jr xs ys->ys.length=xs.length/\∀k,k<xs.length->Same (xs.getD k .undef) (ys.getD k .undef)
 |[],[],_=>⟨rfl,by simp⟩
 |x::xs,y::ys,h=>by
  obtain⟨h1,h2⟩:=Jt h.2;refine⟨by simp[h1],fun k hk=> ?_⟩;cases k with
  |zero=>simpa using h.1.same
  |succ k=>simpa using h2 k (by simpa using hk)
def uT:AV->AV->Prop
 | .agg xs,.agg ys=>jr xs ys
 |x,y=>dD x y
theorem uT.same{x y:AV}(h:uT x y):Same x y:=by
 unfold uT at h;split at h
 ·obtain⟨h1,h2⟩:=Jt h;intro w j v hr;cases hr with
  |agg vs hs hv=>exact .agg vs (by rw[h1];exact hs) fun k hk=>h2 k (by rw[←h1];exact hk) _ _ _ (hv k (by rw[←h1];exact hk))
 ·exact h.same
def xZ:List AV->List AV->Prop
 |[],[]=>True
 |x::xs,y::ys=>uT x y/\xZ xs ys
 |_,_=>False
theorem Eb: ∀{xs ys:List AV},xZ xs ys->ys.length=xs.length/\∀k,k<xs.length->Same (xs.getD k .undef) (ys.getD k .undef)
 |[],[],_=>⟨rfl,by simp⟩
 |x::xs,y::ys,h=>by
  obtain⟨h1,h2⟩:=Eb h.2;refine⟨by simp[h1],fun k hk=> ?_⟩;cases k with
  |zero=>simpa using h.1.same
  |succ k=>simpa using h2 k (by simpa using hk)
def Jr:AV->AV->Prop
 | .eX xs,.eX ys=>xZ xs ys
 |x,y=>uT x y
theorem Jr.same{x y:AV}(h:Jr x y):Same x y:=by
 unfold Jr at h;split at h
 ·obtain⟨h1,h2⟩:=Eb h;intro w j v hr;cases hr with
  |eX vs hs hv=>exact .eX vs (by rw[h1];exact hs) fun k hk=>h2 k (by rw[←h1];exact hk) _ _ _ (hv k (by rw[←h1];exact hk))
 ·exact h.same
def zn(P:Program)(fn:Func)(nM:List aC)(r:AV):Exit->St->Prop
 | .normal,s=>x8 P s fn.results.toList fun xs=>(∃g,s.σ=nM++g)/\Jr (Ko xs) r/\rF nM.length [] s.mv
 | .ret,s=>x8 P s fn.results.toList fun xs=>(∃g,s.σ=nM++g)/\Jr (Ko xs) r/\rF nM.length [] s.mv
 |_,_=>False
theorem ay.Lr{P:Program}{f:FuncId}{fn:Func}{c:Code}{args:List AV}{σ:List aC}{r:AV}(hen:dO P f=true)(hf:P.funcs[f]? =some fn)(hb:fn.body=some c)(hN:args.length<=fn.ntmps)(hr:r.under σ.length)
  (h:sF σ->dY P c (zn P fn σ r) (St.init fn.ntmps args σ)):ay P f args σ r:=by
 refine⟨hen,fun j w vs hs hrs=>PE hf hb hN (h hs.wf) hs hrs fun e s' hq=> ?_⟩;have fin:(x8 P s' fn.results.toList fun xs=>(∃g,s'.σ=σ++g)/\Jr (Ko xs) r/\rF σ.length [] s'.mv)->∀j' a w',Rel ⟨j,w.heap.size,none⟩ s' j' a w'->Ev j w j' w'->∃v,(results fn a.tmps).run P w'= .ok v w'/\∃v' r' σ' j' X,Ending.returned v= .returned v'/\aS w' j' σ'/\R w' j' r' v'/\Ev j w j' w'/\j.length<=j'.length/\Ag j j' X/\(r'=r/\σ'=σ/\X=[]):=by
  intro hq j' a w' hrel hev;obtain⟨v,x,h1,h2,⟨g,h3⟩,h4,h5⟩:=uo hrel (K:=fun x=>(∃g,s'.σ=σ++g)/\Jr x r/\rF σ.length [] s'.mv) hq;have mZ:=hrel.cZ;rw[h3] at mZ;have hlen0:j.length<=j'.length:=hrel.len0;have hag:Ag j j' []:=Ag.rF hrel.ag (by show rF j.length [] s'.mv;rw[hs.len];exact h5);obtain⟨g1,g2,g3⟩:=hs.drop mZ (.refl _) hag hlen0;have hlen:(j'.take j.length).length=j.length:=by simp;omega
  refine⟨v,h1,v,r,σ,j'.take j.length,[],rfl,g1,(h4.same _ _ _ h2).less g2 g3 (by rw[hlen,hs.len];exact hr),⟨hev.size,hev.keep,fun b hb hm=>hev.sub b hb (g2 _ hm),hev.Xa,hev.uN,hev.os,hev.tape,hev.output,hev.lps⟩,by omega,fun b hb hn=> ?_,rfl,rfl,rfl⟩;rw[←g3 b (by omega)];exact hag b hb hn
 cases e with
 |normal=>exact⟨.inl rfl,fin hq⟩
 |ret=>exact⟨.inr rfl,fin hq⟩
 |exit id=>exact hq.elim
 |goto l=>exact hq.elim
 |panic c=>exact hq.elim
 |outgrown=>exact hq.elim
theorem app_get{α:Type}(l r:List α)(k:Nat):(l++r)[l.length+k]? =r[k]? :=by
 rw[List.getElem?_append_right (by omega)];congr 1;omega
theorem app_get0{α:Type}(l r:List α):(l++r)[l.length]? =r[0]? :=app_get l r 0
theorem app_set{α:Type}(l r:List α)(k:Nat)(x:α):(l++r).set (l.length+k) x=l++r.set k x:=by
 rw[List.set_append_right _ _ (by omega)];congr 2;omega
theorem app_set0{α:Type}(l r:List α)(x:α):(l++r).set l.length x=l++r.set 0 x:=app_set l r 0 x
attribute [go_sem ↓] zn zo Ll Jr xZ jr uT dD
attribute [go_sem] app_get app_get0 app_set app_set0 AV.under gK rF
structure Back(sh s' s'':St):Prop where
 N:s''.N=s'.N
 mv: ∀x∈s'.mv,x∈s''.mv
 σ: ∃g,s'.σ=s''.σ++g
 blk:Leaves sh.σ s''.σ
 t: ∀k av,get s''.t k=some av->get s'.t k=some av/\(get sh.t k=some av\/av.under sh.σ.length)
theorem Back.rel{sh s' s'':St}(h:Back sh s' s''){j0:J0}{jh j:Js}{ah a:Act}{wh w:World}(hh:Rel j0 sh jh ah wh)(hr:Rel j0 s' j a w)(hle:jh.length<=j.length): ∃j',Rel j0 s'' j' a w/\Ev j w j' w/\jh.length<=j'.length:=by
 obtain⟨g,hg⟩:=h.σ;have mZ:=hr.cZ;rw[hg] at mZ;obtain⟨g1,g2,g3⟩:=hh.cZ.drop mZ h.blk (X:=List.range jh.length) (fun b hb hn=>absurd (by simpa using hb) hn) hle;have hlen:(j.take jh.length).length=jh.length:=by simp;omega
 have he:Ev j w (j.take jh.length) w:=⟨Nat.le_refl _,fun _ _ _=>rfl,fun b _ hm=>g2 _ hm,fun _ _=>rfl,fun _ _=>rfl,rfl,rfl,rfl,fun _ r h=>⟨r,h⟩⟩;refine⟨j.take jh.length,⟨hr.defers.mono he,hr.jw,by rw[h.N];exact hr.size,fun k av hk=> ?_,g1,by rw[hlen];exact hh.len0,?_⟩,he,by omega⟩
 ·obtain⟨h1,h2⟩:=h.t k av hk;have h3:=hr.tmp k av h1;rw[h.N];refine⟨h3.1,?_⟩;rcases h2 with h2|h2
  ·exact(hh.tmp k av h2).2.shrink g2 (fun b hb=>g3 b (by omega)) h3.2
  ·exact h3.2.less g2 g3 (by rw[hlen,hh.cZ.len];exact h2)
 ·intro b hb hn;rw[←g3 b (by have:=hh.len0;omega)];exact hr.ag b hb fun hm=>hn (h.mv b hm)
theorem Back.len{sh s' s'':St}(h:Back sh s' s''){j0:J0}{jh j:Js}{ah a:Act}{wh w:World}(hh:Rel j0 sh jh ah wh)(hr:Rel j0 s' j a w):jh.length<=j.length:=by
 obtain⟨g,hg⟩:=h.σ;have h1:=h.blk.len;have h2:=hh.cZ.len;have h3:=hr.cZ.len;rw[hg,List.length_append] at h3;omega
structure Less(s s':St):Prop where
 N:s'.N=s.N
 mv: ∀x∈s.mv,x∈s'.mv
 σ:s'.σ=s.σ
 t: ∀k av,get s'.t k=some av->get s.t k=some av
theorem Less.sub{s s':St}(h:Less s s'):Sub s s':=fun j0 j a w hr=>
 ⟨j,⟨hr.defers,hr.jw,by rw[h.N];exact hr.size,fun k av hk=>by rw[h.N];exact hr.tmp k av (h.t k av hk),by rw[h.σ];exact hr.cZ,hr.len0,fun b hb hn=>hr.ag b hb fun hm=>hn (h.mv b hm)⟩,.refl _ _⟩
def MK:List (Nat×AV)->List (Nat×AV)->Prop
 |[],_=>True
 |(k,v)::t,u=>get u k=some v/\MK t u
def Tt(th:List (Nat×AV))(n:Nat):List (Nat×AV)->List (Nat×AV)->Prop
 |[],_=>True
 |(k,v)::t,u=>get u k=some v/\(get th k=some v\/v.under n)/\Tt th n t u
theorem Tq: ∀{th t u:List (Nat×AV)} {n k:Nat} {av:AV},Tt th n t u->get t k=some av->get u k=some av/\(get th k=some av\/av.under n)
 |_,[],u,n,k,av,_,h=>by simp[get] at h
 |th,(q,v)::t,u,n,k,av,hs,h=>by
  simp only[get] at h;by_cases hq:q=k
  ·subst hq;simp at h;subst h;exact⟨hs.1,hs.2.1⟩
  ·simp only[xO hq,Bool.false_eq_true,if_false] at h;exact Tq hs.2.2 h
theorem bK{N:Nat}{th t' t'':List (Nat×AV)}{σh σ' yP:List aC}{mvh mv mv':List Nat}{Nh:Nat}(hσ: ∃g,σ'=yP++g)(hb:Leaves σh yP)(h:Tt th σh.length t'' t')(hm: ∀x∈mv,x∈mv':=by simp):Back ⟨Nh,th,σh,mvh⟩ ⟨N,t',σ',mv⟩ ⟨N,t'',yP,mv'⟩:=
 ⟨rfl,hm,hσ,hb,fun k av hk=>Tq h hk⟩
section
variable {P : Program} {Q : Exit -> St -> Prop} {s : St}
theorem awp_loopN{c:Code}{α:Type}(st:α->St)(ok:α->Prop)(μ:α->Nat)(x₀:α)(h0:Sub s (st x₀))(hx₀:ok x₀)
  (round: ∀x,ok x->dY P c (xY (fun s'=> ∃x',Back (st x) s' (st x')/\ok x'/\μ x'<μ x) Q) (st x)):dY P (.loop c) Q s:=by
 intro j0 j a w hr;obtain⟨j₁,hr₁,he₁⟩:=h0 j0 j a w hr;intro b k cs hro hb hfr;have key: ∀n x j₁ a w₁,μ x=n->ok x->Rel j0 (st x) j₁ a w₁->Ev j w j₁ w₁->
   ∃e a' w',D5 j0 j w Q e a' w'/\ArrivesIn (Machine.fenced P (FW j0.rd)) P (lone (b.atR a (.code c:: .inLoop c::k)) cs w₁) b k cs e a' w':=by
  intro n;induction n using Nat.strongRecOn with
  |_ n ih=>
   intro x j₁ a w₁ hn hx hr he;obtain⟨e,a₁,w₂,⟨s',j₂,hr₂,he₂,hq⟩,harr⟩:=round x hx j0 j₁ a w₁ hr b (.inLoop c::k) cs hro hb hfr;cases e with
   |normal=>
    obtain⟨x',hback,hx',hlt⟩:=hq;obtain⟨j₃,hr₃,he₃,_⟩:=hback.rel hr hr₂ (hback.len hr hr₂);obtain⟨e₂,a₂,w₃,hq₂,harr₂⟩:=ih (μ x') (hn▸hlt) x' j₃ a₁ w₂ rfl hx' hr₃ ((he.trans he₂).trans he₃);exact⟨e₂,a₂,w₃,hq₂,.of_steps (StepsIn.trans harr (.one (fenced_calm hb hfr rfl) stepR_inLoop)) harr₂⟩
   |exit id=>exact⟨_,a₁,w₂,⟨s',j₂,hr₂,he.trans he₂,hq⟩,.pass (x:= .inLoop c) rfl (fun _ _=> .inl (by simp)) harr⟩
   |goto l=>exact⟨_,a₁,w₂,⟨s',j₂,hr₂,he.trans he₂,hq⟩,.pass (x:= .inLoop c) rfl (fun _ _=> .inl (by simp)) harr⟩
   |ret=>exact⟨_,a₁,w₂,⟨s',j₂,hr₂,he.trans he₂,hq⟩,.pass (x:= .inLoop c) rfl (fun _ _=> .inl (by simp)) harr⟩
   |panic ch=>exact⟨_,a₁,w₂,⟨s',j₂,hr₂,he.trans he₂,hq⟩,.pass (x:= .inLoop c) rfl (fun _ _=> .inl (by simp)) harr⟩
   |outgrown=>exact⟨_,a₁,w₂,⟨s',j₂,hr₂,he.trans he₂,hq⟩,.pass (x:= .inLoop c) rfl (fun _ _=> .inl (by simp)) harr⟩
 obtain⟨e,a',w',hq,harr⟩:=key _ x₀ j₁ a w rfl hx₀ hr₁ he₁;exact⟨e,a',w',hq,.of_steps (.one (fenced_calm hb hfr rfl) stepR_loop) harr⟩
end
def puts:List (Nat×AV)->List (Nat×AV)->List (Nat×AV)
 |t,[]=>t
 |t,(k,v)::us=>puts (aU.put t k v) us
theorem Xn: ∀{us t u:List (Nat×AV)} {k:Nat} {av:AV},MK us u->(∀k av,get t k=some av->get u k=some av)->get (puts t us) k=some av->get u k=some av
 |[],t,u,k,av,_,ht,h=>ht k av h
 |(q,v)::us,t,u,k,av,hs,ht,h=>by
  refine Xn (t:=aU.put t q v) hs.2 (fun k' P5 h'=> ?_) h;rw[get_put] at h';split at h'
  ·rename_i hq;subst hq;cases h';exact hs.1
  ·exact ht k' P5 h'
theorem bF{P:Program}{c:Code}{Q:Exit->St->Prop}{N:Nat}{t t':List (Nat×AV)}{σ:List aC}{mv:List Nat}(L:List Nat)(h:bf L t=t')(h':dY P c Q ⟨N,t',σ,mv⟩):dY P c Q ⟨N,t,σ,mv⟩:=by
 refine iW (s':=⟨N,t',σ,mv⟩) (Less.sub ⟨rfl,fun _ h=>h,rfl,fun k av hk=> ?_⟩) h';simp only at hk;rw[←h,iE] at hk;split at hk
 ·exact hk
 ·simp at hk
theorem bU{P:Program}{c:Code}{Q:Exit->St->Prop}{α:Type}{N:Nat}{t:List (Nat×AV)}{σ:List aC}{mv:List Nat}(upd:α->List (Nat×AV))(uK:α->List aC)(ok:α->Prop)(μ:α->Nat)(x₀:α)(h0:MK (upd x₀) t)(hσ:σ=uK x₀)(hx₀:ok x₀)
  (round: ∀x,ok x->dY P c (xY (fun s'=> ∃x',Back ⟨N,puts t (upd x),uK x,mv⟩ s' ⟨N,puts t (upd x'),uK x',mv⟩/\ok x'/\μ x'<μ x) Q) ⟨N,puts t (upd x),uK x,mv⟩):dY P (.loop c) Q ⟨N,t,σ,mv⟩:=
 awp_loopN (fun x=>⟨N,puts t (upd x),uK x,mv⟩) ok μ x₀ (by subst hσ;exact Less.sub ⟨rfl,fun _ h=>h,rfl,fun k av hk=>Xn h0 (fun _ _ h=>h) hk⟩) hx₀ round
theorem qg{P:Program}{c:Code}{Q:Exit->St->Prop}{N:Nat}{t:List (Nat×AV)}{σ:List aC}{mv:List Nat}(M:List Nat)(hm: ∀x∈mv,x∈M)(h:dY P c Q ⟨N,t,σ,M⟩):dY P c Q ⟨N,t,σ,mv⟩:=
 iW (s':=⟨N,t,σ,M⟩) (Less.sub ⟨rfl,hm,rfl,fun k av hk=>hk⟩) h
def nth{α:Type}[Inhabited α](l:List α)(i:Nat):α:=l[i]?.getD default
theorem zI{α:Type}[Inhabited α]{l:List α}{i:Nat}(h:i<l.length):nth l i=l[i]:=by simp[nth,h]
abbrev SL{α:Type}(cap:Option Nat)(sz:Nat)(enc:α->List D)(n:Nat)(f:Nat->α):D:= .sl cap sz n fun i=>enc (f i)
def lst{α:Type}(n:Nat)(f:Nat->α):List α:=(List.range n).map f
theorem bP{α:Type}(n:Nat)(f:Nat->α):(lst n f).length=n:=by simp[lst]
theorem xg{α:Type}{n:Nat}{f:Nat->α}{i:Nat}(h:i<n):(lst n f)[i]? =some (f i):=by simp[lst,h]
theorem Lu{α:Type}[Inhabited α](l:List α):lst l.length (nth l)=l:=by
 apply List.ext_getElem?;intro i;by_cases h:i<l.length
 ·rw[xg h,zI h];simp[h]
 ·rw[List.getElem?_eq_none (by rw[bP];omega),List.getElem?_eq_none (by omega)]
theorem thenA_ret(K:St->Prop)(Q:Exit->St->Prop)(s:St):xY K Q .ret s=Q .ret s:=rfl
theorem ZO(K:St->Prop)(Q:Exit->St->Prop)(s:St)(i:Nat):xY K Q (.exit i) s=Q (.exit i) s:=rfl
theorem TT(K:St->Prop)(Q:Exit->St->Prop)(s:St):xY K Q .normal s=K s:=rfl
theorem Yd(id:Nat)(Q:Exit->St->Prop)(s:St):rJ id Q .ret s=Q .ret s:=rfl
theorem OY(id:Nat)(Q:Exit->St->Prop)(s:St):rJ id Q .normal s=Q .normal s:=rfl
theorem Gl(id i:Nat)(Q:Exit->St->Prop)(s:St):rJ id Q (.exit i) s=if Nat.beq i id then Q .normal s else Q (.exit i) s:=rfl
attribute [go_sem] puts
attribute [go_sem ↓] thenA_ret ZO TT Yd OY Gl Tt MK
theorem cell_loop{w:World}{l:Nat}{r r':Loop}(h:w.heap[l]? =some (.loop r))(a:Addr):(w.putObj l (.loop r')).cell? a=w.cell? a:=by
 by_cases hb:a.block=l
 ·have h1:(w.putObj l (.loop r')).heap[a.block]? =some (.loop r'):=by rw[hb];exact World.putObj_heap_same (Array.getElem?_eq_some_iff.1 h).1
  have h2:w.heap[a.block]? =some (.loop r):=by rw[hb];exact h
  simp[World.cell?,h1,h2]
 ·simp[World.cell?,World.putObj_heap_other hb]
theorem MR{w:World}{l:Nat}{r r':Loop}(h:w.heap[l]? =some (.loop r))(b:Nat):(w.putObj l (.loop r')).shape? b=w.shape? b:=by
 by_cases hb:b=l
 ·subst hb;simp[World.shape?,World.putObj_heap_same (Array.getElem?_eq_some_iff.1 h).1,h]
 ·simp[World.shape?,World.putObj_heap_other hb]
theorem Ym{w:World}{l:Nat}{r r':Loop}(h:w.heap[l]? =some (.loop r))(a:Addr):(w.putObj l (.loop r')).frozen? a=w.frozen? a:=by
 by_cases hb:a.block=l
 ·have h1:(w.putObj l (.loop r')).heap[a.block]? =some (.loop r'):=by rw[hb];exact World.putObj_heap_same (Array.getElem?_eq_some_iff.1 h).1
  have h2:w.heap[a.block]? =some (.loop r):=by rw[hb];exact h
  simp[World.frozen?,h1,h2]
 ·simp[World.frozen?,World.putObj_heap_other hb]
theorem ev_loop{j:Js}{w:World}{l:Nat}{r r':Loop}(h:w.heap[l]? =some (.loop r))(hj:some l∈j):Ev j w j (w.putObj l (.loop r')) where
 size:=by simp
 keep b _ hn:=World.putObj_heap_other fun he=>hn (he▸hj)
 sub _ _ h:=h
 Xa b _:=MR h b
 uN a _:=Ym h a
 os:=rfl
 tape:=rfl
 output:=rfl
 lps b r'' hb:=by
  by_cases he:b=l
  ·subst he;exact⟨r',World.putObj_heap_same (Array.getElem?_eq_some_iff.1 h).1⟩
  ·exact⟨r'',by rw[World.putObj_heap_other he];exact hb⟩
theorem aS.loop{w:World}{j:Js}{σ:List aC}(hs:aS w j σ){b cb:Nat}(hb:j[b]? =some (some cb)){L:jo}{st:LoopState}{pd:Option Code}(hx:σ[b]? =some (.lp L st pd))(st':LoopState)(pd':Option Code):
  ∃r:Loop,w.heap[cb]? =some (.loop r)/\r.state=st/\r.pending=pd/\aS (w.putObj cb (.loop { r with state:=st',pending:=pd' })) j (σ.set b (.lp L st' pd'))/\Ev j w j (w.putObj cb (.loop { r with state:=st',pending:=pd' })):=by
 obtain⟨o,ho,hB⟩:=hs.blk b _ hx;rw[hb] at ho;cases ho
 obtain⟨r,h1,h2,h3,h4⟩:=hB;have hc:=cell_loop (r':= { r with state:=st',pending:=pd' }) h1;have hsh:=MR (r':= { r with state:=st',pending:=pd' }) h1;have hmem:some cb∈j:=List.mem_of_getElem? hb;refine⟨r,h1,h2.1,h2.2.1,⟨by simp[hs.len],fun b cb hb=>by have:=hs.lt b cb hb;simpa using this,hs.inj,fun b' y hy=> ?_⟩,ev_loop h1 hmem⟩;rw[List.getElem?_set] at hy;by_cases hbb:b=b'
 ·subst hbb;have hlt:b<σ.length:=(List.getElem?_eq_some_iff.1 hx).1;rw[if_pos rfl,if_pos hlt] at hy;cases hy
  exact⟨some cb,hb,_,World.putObj_heap_same (Array.getElem?_eq_some_iff.1 h1).1,⟨rfl,rfl,h2.2.2.1,h2.2.2.2.1,h2.2.2.2.2⟩,h3,fun k av hk=>⟨(h4 k av hk).1,(h4 k av hk).2.congr hc (by simp) hsh fun mb es cl hmb=>by rw[World.putObj_heap_other (fun e=>by subst e;rw[hmb] at h1;cases h1)];exact hmb⟩⟩
 ·rw[if_neg hbb] at hy;obtain⟨o,ho,hB⟩:=hs.blk b' y hy;refine⟨o,ho,hB.congr hc (by simp) hsh (fun cb' hcb=>World.putObj_heap_other fun he=>hbb ?_) fun mb es cl hmb=>by rw[World.putObj_heap_other (fun e=>by subst e;rw[hmb] at h1;cases h1)];exact hmb⟩;subst he;subst hcb;exact hs.inj _ _ _ hb ho
def St.NV(s:St):List Tmp->List AV->St
 |p::ps,x::xs=>(s.put (some p) x).NV ps xs
 |_,_=>s
theorem Rel.NV{j0:J0}{j:Js}{w:World}{d:List Deferred} : ∀{ps:List Tmp} {xs:List AV} {us:List Value} {s:St} {tmps:Array Value},Rel j0 s j { tmps:=tmps,defers:=d } w->us.length=xs.length->(∀k,k<xs.length->R w j (xs.getD k .undef) (us.getD k Go.undef))->
  Rel j0 (s.NV ps xs) j { tmps:=(ps.zip us).foldl (fun tm (p:Tmp×Value)=>tm.setIfInBounds p.1 p.2) tmps,defers:=d } w
 |[],xs,us,s,tmps,h,_,_=>by cases xs<;>exact h
 |p::ps,[],us,s,tmps,h,hl,_=>by
  have:us=[]:=List.length_eq_zero_iff.1 hl;subst this;simpa[St.NV] using h
 |p::ps,x::xs,[],s,tmps,h,hl,_=>by simp at hl
 |p::ps,x::xs,u::us,s,tmps,h,hl,hx=>by
  have h1:=h.put (some p) (av:=x) (v:=u) (by simpa using hx 0 (by simp));exact Rel.NV (ps:=ps) h1 (by simpa using hl) fun k hk=>by simpa using hx (k+1) (by simpa using hk)
def mY(b:Nat):List Nat->Prop
 |[]=>True
 |x::xs=>x≠b/\mY b xs
theorem BQ{b:Nat} : ∀{l:List Nat},mY b l->b∉l
 |[],_=>by simp
 |x::xs,h=>by
  simp only[List.mem_cons,not_or];exact⟨fun he=>h.1 he.symm,BQ h.2⟩
def Ey:Exit->Option (Option Code)
 | .normal=>some none
 | .ret=>some (some .ret)
 | .exit id=>some (some (.exit id))
 | .goto t=>some (some (.goto t))
 |_=>none
def Ec(b:Nat)(nM:List aC)(X:List Nat)(Q:AV->List aC->Prop)(e:Exit)(s:St):Prop:=
 match Ey e with
 |some jump=>match s.σ[b]? with
  |some (.lp L st pd)=> ∃σ' g,s.σ.set b (.lp L (if jump.isNone then .ready else .done) jump)=σ'++g/\Leaves nM σ'/\rF nM.length X s.mv/\mY b s.mv/\Q (.d (.v (.bool jump.isNone))) σ'
  |_=>False
 |none=>False
def I7(P:Program)(b:Nat)(body:Code)(Q:Exit->St->Prop):Exit->St->Prop
 | .normal,s=>match s.σ[b]? with
  |some (.lp L .ready pd)=>mY b s.mv/\dY P body Q { s with σ:=s.σ.set b (.lp L .busy pd) }
  |_=>False
 |_,_=>False
theorem YS.UL{P:Program}{b:Nat}{args:List AV}{σ:List aC}{L:jo}{pd:Option Code}{X:List Nat}{Q:AV->List aC->Prop}(hb:σ[b]? =some (.lp L .ready pd))(hargs:args.length=L.ps.size)
  (h:sF σ->dY P L.assign (I7 P b L.body (Ec b σ X Q)) (St.NV ⟨L.N,L.t,σ,[]⟩ L.ps.toList args)):YS P b args σ fun r σ' X'=>X'=X/\Q r σ':=by
 intro rd j w vs cb hs hr hcb;obtain⟨o,ho,hB⟩:=hs.blk b _ hb;rw[hcb] at ho;cases ho
 obtain⟨r,h1,⟨h2a,h2b,h2c,h2d,h2e⟩,h3,h4⟩:=hB;refine⟨r.fn,_,r.assign,r.body,run_yield h1 (by rw[hr.1,hargs,h2c]),?_⟩;refine roundIn_of_wpIn (F:=FW rd) trivial ?_;have hrel0:Rel ⟨j,w.heap.size,some cb⟩ ⟨L.N,L.t,σ,[]⟩ j { tmps:=r.tmps,defers:=[] } w:=
  ⟨.nil (Nat.le_refl _) _,fun l hl=>by cases hl;exact⟨r,h1⟩,h3,fun k av hk=>h4 k av (get_mem hk),hs,Nat.le_refl _,.refl _ _⟩
 have hrel1:=Rel.NV (ps:=L.ps.toList) (xs:=args) (us:=vs.toList) hrel0 (by simpa using hr.1) (fun k hk=>by simpa[Array.getD_eq_getD_getElem?,List.getD_eq_getElem?_getD] using hr.2 k hk);have etm:(r.params.zip vs).foldl (fun tmps (t,a)=>tmps.setIfInBounds t a) r.tmps=(L.ps.toList.zip vs.toList).foldl (fun tm (p:Tmp×Value)=>tm.setIfInBounds p.1 p.2) r.tmps:=by
  rw[←Array.foldl_toList,Array.toList_zip,h2c]
 rw[etm,h2d,h2e];refine wpIn_mono (h hs.wf ⟨j,w.heap.size,some cb⟩ j _ w hrel1) ?_;rintro e a1 w1 ⟨s1,j1,hr1,he1,hq⟩;cases e with
 |normal=>
  simp only[I7] at hq;split at hq
  ·rename_i L1 pd1 hx1;obtain⟨hmv1,hq⟩:=hq;have hbj:b<j.length:=(List.getElem?_eq_some_iff.1 hcb).1;have hcb1:j1[b]? =some (some cb):=by rw[hr1.ag b hbj (BQ hmv1)];exact hcb
   obtain⟨r1,g1,g2,g3,g4,g5⟩:=hr1.cZ.loop hcb1 hx1 .busy pd1;have erec: { r1 with state:=LoopState.busy,pending:=pd1 } = { r1 with state:=LoopState.busy } :=by rw[←g3]
   rw[erec] at g4 g5;refine⟨_,run_beginRound g1 g2,?_⟩;have hr2:Rel ⟨j,w.heap.size,some cb⟩ { s1 with σ:=s1.σ.set b (.lp L1 .busy pd1) } j1 a1 (w1.putObj cb (.loop { r1 with state:= .busy })):=by
    have:=hr1.after g5 g4 (Nat.le_refl _) (.refl _ []);exact this
   refine wpIn_mono (hq ⟨j,w.heap.size,some cb⟩ j1 a1 _ hr2) ?_;rintro e a3 w3 ⟨s3,j3,hr3,he3,hq3⟩;have hev:Ev j w j3 w3:=(he1.trans g5).trans he3;have fin: ∀jump,Ey e=some jump->∃v w',(Instr.endRound cb jump).run P w3= .ok v w'/\∃v' r σ' j' X',Ending.returned v= .returned v'/\aS w' j' σ'/\R w' j' r v'/\Ev j w j' w'/\j.length<=j'.length/\Ag j j' X'/\X'=X/\Q r σ':=by
    intro jump hj;simp only[Ec,hj] at hq3;split at hq3
    ·rename_i L3 st3 pd3 hx3;obtain⟨σ',gg,q1,q2,q3,q4,q5⟩:=hq3;have hcb3:j3[b]? =some (some cb):=by rw[hr3.ag b hbj (BQ q4)];exact hcb
     obtain⟨r3,k1,k2,k3,k4,k5⟩:=hr3.cZ.loop hcb3 hx3 (if jump.isNone then .ready else .done) jump;refine⟨_,_,run_endRound jump k1,?_⟩;rw[q1] at k4;have hlen0:j.length<=j3.length:=hr3.len0;have hag:Ag j j3 X:=Ag.rF hr3.ag (by show rF j.length X s3.mv;rw[hs.len];exact q3);obtain⟨m1,m2,m3⟩:=hs.drop k4 q2 hag hlen0;have hlen:(j3.take j.length).length=j.length:=by simp;omega
     have U4:=hev.trans k5;refine⟨_,_,σ',j3.take j.length,X,rfl,m1,.d (.v _),⟨U4.size,U4.keep,fun b hb hm=>U4.sub b hb (m2 _ hm),U4.Xa,U4.uN,U4.os,U4.tape,U4.output,U4.lps⟩,by omega,fun b hb hn=> ?_,rfl,q5⟩;rw[←m3 b (by omega)];exact hag b hb hn
    ·exact hq3.elim
   cases e with
   |normal=>exact fin none rfl
   |ret=>exact fin (some .ret) rfl
   |exit id=>exact fin (some (.exit id)) rfl
   |goto t=>exact fin (some (.goto t)) rfl
   |panic c=>exact hq3.elim
   |outgrown=>exact hq3.elim
  ·exact hq.elim
 |exit id=>exact hq.elim
 |goto l=>exact hq.elim
 |ret=>exact hq.elim
 |panic c=>exact hq.elim
 |outgrown=>exact hq.elim
theorem IW(j j':Js)(w:World)(o:Obj)(ho: ∀C e f,o≠.cells C e f)(hj: ∀b,b<w.heap.size->some b∈j'->some b∈j):Ev j w j' (w.alloc o) where
 size:=by simp
 keep b hb _:=bV w _ hb
 sub:=hj
 Xa b hb:=by simp[World.shape?,bV w _ hb]
 uN a _:=by
  by_cases h:a.block=w.heap.size
  ·have h1:(w.alloc o).heap[a.block]? =some o:=by rw[h];exact heap_alloc_new w _
   have h2:w.heap[a.block]? =none:=by rw[h];simp
   cases o with
   |cells C e f=>exact absurd rfl (ho C e f)
   |_=>simp[World.frozen?,h1,h2]
  ·have h1:(w.alloc o).heap[a.block]? =w.heap[a.block]? :=by
    show(w.heap.push _)[a.block]? =_
    rw[Array.getElem?_push,if_neg h]
   simp[World.frozen?,h1]
 os:=rfl
 tape:=rfl
 output:=rfl
 lps b r hb:=⟨r,by rw[bV w _ (Array.getElem?_eq_some_iff.1 hb).1];exact hb⟩
theorem aS.grow{w:World}{j:Js}{σ:List aC}(h:aS w j σ){o:Obj}(ho: ∀C e f,o≠.cells C e f):aS (w.alloc o) j σ/\Ev j w j (w.alloc o):=by
 have he:Ev j w j (w.alloc o):=IW _ _ _ _ ho fun _ _ h=>h;refine⟨⟨h.len,fun b cb hb=>by have:=h.lt b cb hb;simp;omega,h.inj,fun b x hx=> ?_⟩,he⟩;obtain⟨q,hq,hB⟩:=h.blk b x hx;refine⟨q,hq,hB.mono he h.lt (.refl _ _) fun cb hcb=>bV w _ (h.lt b cb (by rw[hq,hcb]))⟩
theorem aS.allocO{w:World}{j:Js}{σ:List aC}(h:aS w j σ){o:Obj}(ho: ∀C e f,o≠.cells C e f)(x:aC)(hx:RB (w.alloc o) (j++[some w.heap.size]) x (some w.heap.size)):
  aS (w.alloc o) (j++[some w.heap.size]) (σ++[x])/\Ev j w (j++[some w.heap.size]) (w.alloc o):=by
 have he:Ev j w (j++[some w.heap.size]) (w.alloc o):=IW _ _ _ _ ho fun b hb hm=>by
  simp at hm;rcases hm with hm|hm
  ·exact hm
  ·omega
 have hold: ∀b,b<j.length->(j++[some w.heap.size])[b]? =j[b]? :=fun b hb=>List.getElem?_append_left hb;have hnew:(j++[some w.heap.size])[j.length]? =some (some w.heap.size):=by simp
 have hcase: ∀{b cb:Nat},(j++[some w.heap.size])[b]? =some (some cb)->(b<j.length/\j[b]? =some (some cb))\/(b=j.length/\cb=w.heap.size):=by
  intro b cb hb;rcases Nat.lt_trichotomy b j.length with hlt|heq|hgt
  ·exact .inl ⟨hlt,by rw[←hold b hlt];exact hb⟩
  ·subst heq;rw[hnew] at hb;cases hb;exact .inr ⟨rfl,rfl⟩
  ·rw[List.getElem?_eq_none (by simp;omega)] at hb;cases hb
 refine⟨⟨by simp[h.len],fun b cb hb=> ?_,fun b b' cb hb hb'=> ?_,fun b y hy=> ?_⟩,he⟩
 ·rcases hcase hb with⟨h1,h2⟩|⟨h1,h2⟩
  ·have:=h.lt b cb h2;simp;omega
  ·simp;omega
 ·rcases hcase hb with⟨h1,h2⟩|⟨h1,h2⟩<;>rcases hcase hb' with⟨g1,g2⟩|⟨g1,g2⟩
  ·exact h.inj b b' cb h2 g2
  ·have:=h.lt b cb h2;omega
  ·have:=h.lt b' cb g2;omega
  ·omega
 ·rcases Nat.lt_trichotomy b σ.length with hlt|heq|hgt
  ·rw[List.getElem?_append_left hlt] at hy;obtain⟨q,hq,hB⟩:=h.blk b y hy;refine⟨q,by rw[hold b (by rw[h.len];exact hlt)];exact hq,hB.mono he h.lt (bZ _ _) fun cb hcb=>bV w _ (h.lt b cb (by rw[hq,hcb]))⟩
  ·subst heq;simp at hy;subst hy;exact⟨some w.heap.size,by rw[←h.len];exact hnew,hx⟩
  ·rw[List.getElem?_eq_none (by simp;omega)] at hy;cases hy
theorem Kt{P:Program}{w:World}{l₀:Nat}{r₀:Loop}(h:w.heap[l₀]? =some (.loop r₀))(fn:FuncId)(tmps:Array Value)(ps:Array Tmp)(assign body:Code):
  (Instr.enterLoop fn tmps ps assign body (some l₀)).run P w= .ok (w.heap.size,[]) (w.alloc (.loop { state:= .ready,pending:=none,fn,tmps,params:=ps,assign,body,defers:=r₀.defers })):=by
 unfold Instr.enterLoop;simp only[Sem.run_bind,run_getLoop h,run_newObj_alloc,Result.andThen,Sem.run_pure]
theorem enter_loop{P:Program}{j0:J0}{s:St}{j:Js}{a:Act}{w:World}(hr:Rel j0 s j a w)(fn:FuncId)(ps:Array Tmp)(assign body:Code)(t':List (Nat×AV))(ht:MK t' s.t):
  ∃l mark w1,(Instr.enterLoop fn a.tmps ps assign body j0.rd).run P w= .ok (l,mark) w1/\aS w1 (j++[some l]) (s.σ++[.lp ⟨s.N,t',ps,assign,body⟩ .ready none])/\Ev j w (j++[some l]) w1/\Marks j0.n0 w1 (j++[some l]) (mark++a.defers):=by
 have hmem: ∀{t':List (Nat×AV)} {k:Nat} {av:AV},MK t' s.t->(k,av)∈t'->get s.t k=some av:=by
  intro t';induction t' with
  |nil=>intro k av _ h;simp at h
  |cons x xs ih=>
   intro k av h hm;rcases List.mem_cons.1 hm with rfl|hm
   ·exact h.1
   ·exact ih h.2 hm
 have main: ∀(w0:World) (dref:Nat),aS w0 j s.σ->Ev j w j w0->aS (w0.alloc (.loop { state:= .ready,pending:=none,fn,tmps:=a.tmps,params:=ps,assign,body,defers:=dref })) (j++[some w0.heap.size]) (s.σ++[.lp ⟨s.N,t',ps,assign,body⟩ .ready none])/\Ev j w0 (j++[some w0.heap.size]) (w0.alloc (.loop { state:= .ready,pending:=none,fn,tmps:=a.tmps,params:=ps,assign,body,defers:=dref })):=by
  intro w0 dref hs0 he0;have he1:Ev j w0 (j++[some w0.heap.size]) (w0.alloc (.loop { state:= .ready,pending:=none,fn,tmps:=a.tmps,params:=ps,assign,body,defers:=dref })):=IW _ _ _ _ (by intro C e f h;cases h) fun b hb hm=>by
   simp at hm;rcases hm with hm|hm
   ·exact hm
   ·omega
  refine hs0.allocO (by intro C e f h;cases h) _ ⟨_,heap_alloc_new w0 _,⟨rfl,rfl,rfl,rfl,rfl⟩,hr.size,fun k av hk=> ?_⟩;have h1:=hr.tmp k av (hmem ht hk);exact⟨h1.1,(h1.2.kM he0 hr.cZ.lt (.refl _ _)).kM he1 hs0.lt (bZ _ _)⟩
 cases hrd:j0.rd with
 |none=>
  obtain⟨hs0,he0⟩:=hr.cZ.grow (o:= .deferred (some [])) (by intro C e f h;cases h);obtain⟨h1,h2⟩:=main _ w.heap.size hs0 he0;simp only[World.size_alloc] at h1 h2;refine⟨w.heap.size+1,[{ target:= .collected w.heap.size,args:= #[] }],_,run_enterLoop_outer _ _ _ _ _,h1,he0.trans h2,?_⟩;have hm:=hr.defers.mono (he0.trans h2);refine⟨⟨hm.1.1,?_⟩,fun d hd=> ?_⟩
  ·show List.Pairwise _ (_::a.defers)
   refine List.pairwise_cons.2 ⟨fun d hd he=> ?_,hm.1.2⟩;obtain⟨r,g1,g2,g3,g4⟩:=hr.defers.2 d hd;have hlt:r<w.heap.size:=(Array.getElem?_eq_some_iff.1 g4).1;rw[g1] at he;cases he
   omega
  ·rcases List.mem_append.1 hd with hd|hd
   ·simp at hd;subst hd;refine⟨w.heap.size,rfl,hr.defers.1.1,fun hm=> ?_,?_⟩
    ·simp at hm;have⟨b,hb⟩:=List.getElem?_of_mem hm;have:=hr.cZ.lt b _ hb;omega
    ·rw[bV _ _ (by simp)];exact heap_alloc_new w _
   ·exact hm.2 d hd
 |some l0=>
  obtain⟨r0,hr0⟩:=hr.jw l0 hrd;obtain⟨h1,h2⟩:=main w r0.defers hr.cZ (.refl _ _);exact⟨w.heap.size,[],_,Kt hr0 _ _ _ _ _,h1,h2,hr.defers.mono h2⟩
def Sz(Q:Exit->St->Prop)(s:St):Option Code->Prop
 |none=>Q .normal s
 |some .ret=>Q .ret s
 |some (.exit id)=>Q (.exit id) s
 |_=>False
theorem awp_range{P:Program}{Q:Exit->St->Prop}{s:St}{g:Operand}{ps:Array Tmp}{assign body:Code}{fid:FuncId}{first captured:List AV}(hg:val s g=some (.clo (.func fid) first captured))(t':List (Nat×AV))(ht:MK t' s.t)
  (h:CS P fid (first++(.xX s.σ.length::captured)) (s.σ++[.lp ⟨s.N,t',ps,assign,body⟩ .ready none]) fun r σ' X=> ∃yP L' st pd,σ'=yP++[.lp L' st pd]/\Leaves s.σ yP/\st≠.busy/\mY s.σ.length X/\Sz Q (s.after yP X) pd):
  dY P (.rangeFunc g ps assign body) Q s:=by
 intro j0 j a w hr;refine wpIn_rangeFunc fun fn _=> ?_;obtain⟨l,mark,w1,h1,h2,h3,h4⟩:=enter_loop (P:=P) hr fn ps assign body t' ht;have hv:=ER hr hg;generalize hgv:a.eval g=u at hv
 cases hv with
 |clo ff cc g1 g2 g3 g4=>
  refine⟨l,mark,w1,{ target:= .fn (.func fid) cc,args:=ff++ #[.func (.yield l) #[] #[]] },w1,fid,ff++ #[.func (.yield l) #[] #[]]++cc,w1,h1,?_,fun _ _=>trivial,?_,by simp[FW],?_⟩
  ·simp only[resolve,hgv,Deferred.ofValue];simp[Act.eval]
  ·simp[invoke,pX h.1]
  ·have hlen:j.length=s.σ.length:=hr.cZ.len;have hjl:(j++[some l])[s.σ.length]? =some (some l):=by rw[←hlen];simp
   have hrs:Rs w1 (j++[some l]) (first++(.xX s.σ.length::captured)) (ff++ #[.func (.yield l) #[] #[]]++cc):=by
    have e1:Rs w1 (j++[some l]) first ff:=⟨g1,fun k hk=>(g3 k hk).kM h3 hr.cZ.lt (bZ _ _)⟩
    have e2:Rs w1 (j++[some l]) captured cc:=⟨g2,fun k hk=>(g4 k hk).kM h3 hr.cZ.lt (bZ _ _)⟩;have e3:Rs w1 (j++[some l]) [.xX s.σ.length] #[.func (.yield l) #[] #[]]:=⟨rfl,fun k hk=>by
     have:k=0:=by simpa using hk
     subst this;exact .xX hjl⟩
    have:=l7 (l7 e1 e3) e2;simpa using this
   refine Hw ((h.2 (j++[some l]) w1 _ h2 hrs).mono ?_);rintro e w2 ⟨v,r,σ',j2,X,rfl,k1,k2,k3,k4,k5,yP,L',st,pd,rfl,k6,k7,k8,k9⟩;have hlen2:yP.length=s.σ.length:=k6.len;have hj2:j2[s.σ.length]? =some (some l):=by
    rw[k5 _ (by simp;omega) (BQ k8)];exact hjl
   obtain⟨r2,q1,q2,q3,q4,q5⟩:=k1.loop hj2 (L:=L') (st:=st) (pd:=pd) (by rw[←hlen2];simp) .exhausted pd;have erec: { r2 with state:=LoopState.exhausted,pending:=pd } = { r2 with state:=LoopState.exhausted } :=by rw[←q3]
   rw[erec] at q4 q5;refine⟨r2.pending,_,run_endLoop q1 (by rw[q2];exact k7),?_⟩;rw[←hlen2] at q4;simp only[List.set_append_right _ _ (Nat.le_refl _),Nat.sub_self,List.set_cons_zero] at q4;have hr1:Rel j0 (s.after (s.σ++[.lp ⟨s.N,t',ps,assign,body⟩ .ready none]) []) (j++[some l]) { a with defers:=mark++a.defers } w1:=by
    have:=hr.after h3 h2 (by simp) (bZ _ _);exact⟨h4,this.jw,this.size,this.tmp,this.cZ,this.len0,this.ag⟩
   have hr2:=hr1.after (k3.trans q5) q4 k4 (k5:Ag _ _ X);have hback:Back s ((s.after (s.σ++[.lp ⟨s.N,t',ps,assign,body⟩ .ready none]) []).after (yP++[.lp L' .exhausted pd]) X) (s.after yP X):=by
    refine⟨?_,?_,?_,?_,fun k av hk=> ?_⟩
    ·cases X<;>rfl
    ·cases X<;>exact fun x hx=>hx
    ·cases X<;>exact⟨_,rfl⟩
    ·cases X<;>exact k6
    ·cases X with
     |nil=>exact⟨hk,.inl hk⟩
     |cons x xs=>exact⟨hk,.inl (zi hk).1⟩
   obtain⟨j3,hr3,he3,_⟩:=hback.rel hr hr2 (by have:=k4;simp at this;omega);have hev:Ev j w j3 _:=(h3.trans (k3.trans q5)).trans he3;generalize w2.putObj l (.loop { r2 with state:= .exhausted })=w4 at hr3 hev⊢
   rw[q3];cases pd with
   |none=>exact⟨_,j3,hr3,hev,k9⟩
   |some c=>
    cases c with
    |ret=>exact wpIn_ret ⟨_,j3,hr3,hev,k9⟩
    |exit id=>exact wpIn_exit ⟨_,j3,hr3,hev,k9⟩
    |_=>exact k9.elim
end Go.aU
namespace Go.aU.Steps
open Go.aU
def wZ:List (Nat×Option Nat)->Nat->Bool
 |[],_=>false
 |x::xs,i=>Nat.beq x.1 i||wZ xs i
def oZ(is:List (Nat×Option Nat))(k:Nat):Nat:=(is.getD k (0,none)).1
def ZF(is:List (Nat×Option Nat))(k:Nat):Option Nat:=(is.getD k (0,none)).2
theorem FZ{is:List (Nat×Option Nat)}{i:Nat} :wZ is i=true↔∃k,k<is.length/\oZ is k=i:=by
 induction is with
 |nil=>simp[wZ]
 |cons x xs ih=>
  simp only[wZ,Bool.or_eq_true,ih];constructor
  ·rintro(h|⟨k,h1,h2⟩)
   ·exact⟨0,by simp,by simpa[oZ] using h⟩
   ·exact⟨k+1,by simpa using h1,by simpa[oZ] using h2⟩
  ·rintro⟨k,h1,h2⟩;rcases k with _|k
   ·exact .inl (by simpa[oZ] using h2)
   ·exact .inr ⟨k,by simpa using h1,by simpa[oZ] using h2⟩
theorem qV(s:St)(σ':List aC)(os:List Oper)(xs:Nat->AV): ∀i,dF ⟨s.N,s.t,σ',s.mv⟩ os xs i=⟨s.N,(dF s os xs i).t,σ',s.mv⟩
 |0=>rfl
 |i+1=>by
  have ht:=sV s os xs i;simp only[dF,qV s σ' os xs i];cases os[i]? with
  |none=>rfl
  |some o=>
   simp only[St.put];cases o.dst with
   |none=>rfl
   |some d=>simp only[ht.1];split<;>rfl
end Go.aU.Steps
namespace Go.aU.Mix
open Go.aU
open Go.aU.Steps (wZ oZ ZF FZ)
def Hr(P:Program)(o:Oper)(s:St)(K:AV->List aC->Prop):Prop:=
 match o.op with
 | .store t p v=>arg true s p fun p=>arg true s v fun v=>qU P t s p v fun s'=>K .undef s'.σ
 | .alloc t=>(match dJ P t with
  |some z=>K (.ptr s.σ.length 0) (s.σ++[.var (z.map fun v=> .d (.v v))])
  |none=>False)
 | .call c=>(match c.callee with
  | .value (.func f)=>args true s c.args.toList fun avs=>CS P f avs s.σ fun r σ' X=>X=[]/\K r σ'
  | .builtin .append=>(match c.args.toList,c.argTypes.toList with
   |[x,y],[t,t']=>arg true s x fun x=>arg true s y fun y=>CO P s.σ t t' x y fun r σ' X=>X=[]/\K r σ'
   |_,_=>False)
  |_=>False)
 |_=>False
theorem EN{P:Program}{all:List Oper}{o:Oper}{s:St}{K:AV->List aC->Prop}(h:Hr P o s K){j0:J0}{j:Js}{a:Act}{w:World}{next:Act->World->Prop}{Q:Exit->Act->World->Prop}
  (hr:Rel j0 (s.bf (looks all o)) j a w) (hn: ∀v w' r σ' j',aS w' j' σ'->R w' j' r v->Ev j w j' w'->Ag j j' []->j.length<=j'.length->K r σ'->next (a.put o.dst v) w'):o.wpIn (FW j0.rd) 0 P a w next Q:=by
 have mZ:aS w j s.σ:=hr.cZ;have mem: ∀x∈o.op.operands,∀t,x= .tmp t->t∈looks all o:=fun x hx t ht=>List.mem_append.2 (.inl (rG hx ht));unfold Hr at h;split at h
 ·rename_i t p v ho;rw[←aP (mem p (by simp[ho,Op.operands]))] at h;obtain⟨pa,h,hp⟩:=aB h;rw[←aP (mem v (by simp[ho,Op.operands]))] at h;obtain⟨va,h,hv⟩:=aB h;unfold qU at h;split at h
  ·rename_i agg m ht;obtain⟨hone,hlen,h⟩:=h;split at h
   ·rename_i side σ' hst;obtain⟨hside,hK⟩:=h;obtain⟨w',h1,h2,h3⟩:=yX (P:=P) mZ ht (hp rfl j0 j a w hr) (hv rfl j0 j a w hr) hone hlen hst hside;have hrun:(execOp a.eval o).run P w= .ok .skip w':=by simp[execOp,ho,h1]
    refine uM (by simp[ho]) hrun ?_;exact hn _ w' _ σ' j h2 (.undef _) h3 (.refl _ _) (Nat.le_refl _) hK
   ·exact h.elim
  ·exact h.elim
 ·rename_i t ho;split at h
  ·rename_i z hz;unfold dJ at hz;split at hz
   ·rename_i inf xC;split at hz
    ·rename_i zz hzz;have hz:zz.cells.toList=z:=Option.some.inj hz;subst hz;have hnv:=hr.newVar (cs:=zz.cells.toList.map fun v=>AV.d (.v v)) zz.cells t (by simp) (fun k hk=>by
      simp only[List.length_map,Array.length_toList] at hk;have e1:(zz.cells.toList.map fun v=>AV.d (.v v)).getD k .undef= .d (.v (zz.cells.getD k Go.undef)):=by
       simp[List.getD_eq_getElem?_getD,Array.getD_eq_getD_getElem?,hk]
      rw[e1];exact .d (.v _))
     obtain⟨g1,g2,g3⟩:=hnv;have hrun:(execOp a.eval o).run P w= .ok (.value (.pointer (some ⟨w.heap.size,0,none⟩))) (w.alloc (.cells zz.cells t)):=by
      simp[execOp,ho,Instr.alloc,zeroValue,typeInfo,xC,hzz,Go.newVar,newRow]
     refine uM (by simp[ho]) hrun ?_;exact hn _ _ _ _ _ g1.cZ g3 g2 (bZ j _) (by simp) h
    ·cases hz
   ·cases hz
  ·exact h.elim
 ·rename_i c ho;split at h
  ·rename_i f hcal;have hmem: ∀x∈c.args.toList,∀t,x= .tmp t->t∈looks all o:=fun x hx t ht=>List.mem_append.2 (.inl (rG (by
    simp only[ho,Op.operands,Call.operands,Array.mem_append];exact .inr (by simpa using hx)) ht))
   rw[←sD (L:=looks all o) hmem] at h;obtain⟨avs,hcs,hl,ha⟩:=ku h;have hfv:a.eval (.func f)= .func (.func f) #[] #[]:=rfl;have hen:=hcs.1;refine uM (by simp[ho]) (PG (P:=P) (w:=w) ho hcal hfv hen) ?_;refine⟨by simp[FW],Hw ?_⟩;have hrs:=Fe (g:=true) rfl hl ha hr;have e:(c.args.toList.map a.eval).toArray=c.args.map a.eval:=by apply Array.ext';simp
   rw[e] at hrs;have e2:(#[]:Array Value)++c.args.map a.eval++ #[]=c.args.map a.eval:=by simp
   rw[e2];refine(hcs.2 j w _ mZ hrs).mono ?_;rintro e w' ⟨v,r',σ',j',X,rfl,h6,h7,h8,h9,h10,rfl,h11⟩;exact hn v w' r' σ' j' h6 h7 h8 h10 h9 h11
  ·rename_i hb;split at h
   ·rename_i x y t t' hxy ht;have hx0:x∈o.op.operands:=by
     simp only[ho,Op.operands,Call.operands,Array.mem_append];right;have:x∈c.args.toList:=by rw[hxy];simp
     simpa using this
    have hy0:y∈o.op.operands:=by
     simp only[ho,Op.operands,Call.operands,Array.mem_append];right;have:y∈c.args.toList:=by rw[hxy];simp
     simpa using this
    rw[←aP (mem x hx0)] at h;obtain⟨xa,h,hx⟩:=aB h;rw[←aP (mem y hy0)] at h;obtain⟨ya,h,hy⟩:=aB h;obtain⟨v,w',j',r,σ',X,h1,h2,h3,h4,h5,h6,rfl,h7⟩:=uJ (P:=P) (ty:=o.type) mZ h (hx rfl j0 j a w hr) (hy rfl j0 j a w hr);have hrun:(execOp a.eval o).run P w= .ok (.value v) w':=by
     have e1:c.args.map a.eval= #[a.eval x,a.eval y]:=by
      have:c.args= #[x,y]:=by apply Array.ext';simpa using hxy
      rw[this];simp
     have e2:c.argTypes= #[t,t']:=by apply Array.ext';simpa using ht
     simp only[execOp,ho,resolve,hb];simp[invoke,builtin,e1,e2,h1]
    refine uM (by simp[ho]) hrun ?_;exact hn v w' r σ' j' h2 h3 h4 h6 h5 h7
   ·exact h.elim
  ·exact h.elim
 ·exact h.elim
def vH:List Nat->Nat->Bool
 |[],_=>false
 |x::xs,i=>Nat.beq x i||vH xs i
theorem memN_iff{l:List Nat}{i:Nat} :vH l i=true↔i∈l:=by
 induction l with
 |nil=>simp[vH]
 |cons x xs ih=>
  simp only[vH,Bool.or_eq_true,Nat.beq_eq,ih,List.mem_cons];exact⟨fun h=>h.imp Eq.symm id,fun h=>h.imp Eq.symm id⟩
def Qm:List (Nat×Option Nat)->List (AV×List aC)->List (Nat×AV)
 |x::xs,v::vs=>(x.1,v.1)::Qm xs vs
 |_,_=>[]
theorem Xg{i:Nat}{r:AV} : ∀{is:List (Nat×Option Nat)} {V:List (AV×List aC)},get (Qm is V) i=some r->∃k,k<is.length/\oZ is k=i/\r=(V.getD k (.undef,[])).1
 |[],V,h=>by simp[Qm,get] at h
 |x::xs,[],h=>by simp[Qm,get] at h
 |x::xs,v::vs,h=>by
  simp only[Qm,get] at h;split at h
  ·rename_i e;exact⟨0,by simp,by simpa[oZ] using e,by simpa using(Option.some.inj h).symm⟩
  ·obtain⟨k,h1,h2,h3⟩:=Xg h;exact⟨k+1,by simpa using h1,by simpa[oZ] using h2,by simpa using h3⟩
theorem Xh{i:Nat} : ∀{is:List (Nat×Option Nat)} {V:List (AV×List aC)},V.length=is.length->get (Qm is V) i=none->∀k,k<is.length->oZ is k≠i
 |[],V,_,h,k,hk=>by simp at hk
 |x::xs,[],hl,h,k,hk=>by simp at hl
 |x::xs,v::vs,hl,h,k,hk=>by
  simp only[Qm,get] at h;split at h
  ·cases h
  ·rename_i e;rcases k with _|k
   ·intro he;apply e;simpa[oZ] using he
   ·have:=Xh (by simpa using hl) h k (by simpa using hk);simpa[oZ] using this
def hadM(t1:List (Nat×AV))(o:Oper):AV:=match o.dst with
 |some d=>(get t1 d).getD .undef
 |none=> .undef
def jG(P:Program)(all:List Oper)(rs:List (Nat×AV))(sk:List Nat)(t1:List (Nat×AV)):List Oper->Nat->St->(St->Prop)->Prop
 |[],_,s,K=>K s
 |o::os,i,s,K=>match get rs i with
  |some r=>jG P all rs sk t1 os (i+1) (s.put o.dst r) K
  |none=>if vH sk i then jG P all rs sk t1 os (i+1) (s.put o.dst (hadM t1 o)) K
   else jA all s o fun gd g=>UK P true gd g o s fun s'=>jG P all rs sk t1 os (i+1) s' K
theorem ES{P:Program}{all:List Oper}{rs:List (Nat×AV)}{sk:List Nat}{t1:List (Nat×AV)} : ∀{os:List Oper} {i0:Nat} {s:St} {K:St->Prop},jG P all rs sk t1 os i0 s K->
  ∃xs:Nat->AV,K (dF s os xs os.length)/\(∀i r,get rs (i0+i)=some r->xs i=r)/\∀i o,os[i]? =some o->get rs (i0+i)=none->vH sk (i0+i)=false->Local P all o (dF s os xs i) (xs i)
 |[],i0,s,K,h=>⟨fun i=>(get rs (i0+i)).getD .undef,h,fun i r hr=>by simp[hr],by simp⟩
 |o::os,i0,s,K,h=>by
  have key: ∀x:AV,jG P all rs sk t1 os (i0+1) (s.put o.dst x) K->(∀r,get rs i0=some r->x=r)->(get rs i0=none->vH sk i0=false->Local P all o s x)->
    ∃xs:Nat->AV,K (dF s (o::os) xs (o::os).length)/\(∀i r,get rs (i0+i)=some r->xs i=r)/\∀i o',(o::os)[i]? =some o'->get rs (i0+i)=none->vH sk (i0+i)=false->Local P all o' (dF s (o::os) xs i) (xs i):=by
   intro x h hx hl;obtain⟨xs,hK,hia,hloc⟩:=ES h;have hst: ∀i,dF s (o::os) (fun|0=>x|i+1=>xs i) (i+1)=dF (s.put o.dst x) os xs i:=by
    intro i;induction i with
    |zero=>rfl
    |succ i ih=>
     show(match(o::os)[i+1]? with|some o'=>(dF s (o::os) (fun|0=>x|i+1=>xs i) (i+1)).put o'.dst (xs i)|none=>dF s (o::os) (fun|0=>x|i+1=>xs i) (i+1))=_
     rw[ih];simp only[List.getElem?_cons_succ];rfl
   refine⟨fun|0=>x|i+1=>xs i,?_,fun i r hi=> ?_,fun i o' hi h1 h2=> ?_⟩
   ·rw[List.length_cons,hst];exact hK
   ·cases i with
    |zero=>exact hx r hi
    |succ i=>exact hia i r (by rw[show i0+1+i=i0+(i+1) by omega];exact hi)
   ·cases i with
    |zero=>simp at hi;subst hi;exact hl h1 h2
    |succ i=>rw[hst];exact hloc i o' (by simpa using hi) (by rw[show i0+1+i=i0+(i+1) by omega];exact h1) (by rw[show i0+1+i=i0+(i+1) by omega];exact h2)
  simp only[jG] at h;cases hg:get rs i0 with
  |some r=>
   rw[hg] at h;exact key r h (fun r' h'=>by rw[hg] at h';exact Option.some.inj h') (fun h'=>by rw[hg] at h';cases h')
  |none=>
   rw[hg] at h;by_cases hs:vH sk i0=true
   ·simp only[hs,if_true] at h;exact key _ h (fun r' h'=>by rw[hg] at h';cases h') (fun _ h'=>by rw[hs] at h';cases h')
   ·simp only[hs,if_false,Bool.false_eq_true] at h;obtain⟨x,hl,h⟩:=F5 h;exact key x h (fun r' h'=>by rw[hg] at h';cases h') (fun _ _=>hl)
def tS(σ:List aC)(V:List (AV×List aC)):Nat->List aC
 |0=>σ
 |k+1=>(V.getD k (.undef,[])).2
def skS(SK:List (List Nat)):Nat->List Nat
 |0=>[]
 |k+1=>SK.getD k []
def eu(ops:List Oper)(m:Nat)(is:List (Nat×Option Nat)):Bool:=
 (List.range is.length).all fun k=>(match ops[oZ is k]? with
  |some o=>(match o.guard with
   |none=>decide (o.dst=ZF is k)&&Nat.blt (oZ is k) m&&(match o.dst with
     |some d=> !(looks ops o).contains d
     |none=>true)&&((List.range m).all fun q=>Nat.ble q (oZ is k)||(match ops[q]? with
    |some oq=>(match oq.dst with
     |some d=> !(looks ops o).contains d
     |none=>true)
    |none=>true))&&(Nat.beq k 0||(Gx ops m 3 o (oZ is (k-1))&&Nat.blt (oZ is (k-1)) (oZ is k)))
   |_=>false)
  |none=>false)
theorem bG{ops:List Oper}{m:Nat}{is:List (Nat×Option Nat)}(h:eu ops m is=true){k:Nat}(hk:k<is.length): ∃o,ops[oZ is k]? =some o/\o.guard=none/\o.dst=ZF is k/\oZ is k<m/\(∀d,o.dst=some d->d∉looks ops o)/\
  (∀q oq d,oZ is k<q->q<m->ops[q]? =some oq->oq.dst=some d->d∉looks ops o)/\(0<k->Gx ops m 3 o (oZ is (k-1))=true/\oZ is (k-1)<oZ is k):=by
 simp only[eu,List.all_eq_true,List.mem_range] at h;have h:=h k hk;split at h
 ·rename_i o ho;split at h
  ·rename_i e1;simp only[Bool.and_eq_true,Nat.blt_eq,Nat.beq_eq,List.all_eq_true,List.mem_range,Bool.or_eq_true,Nat.ble_eq,decide_eq_true_eq] at h;obtain⟨⟨⟨⟨h1,h2⟩,h3⟩,h4⟩,h5⟩:=h;refine⟨o,ho,e1,h1,h2,fun d hd=> ?_,fun q oq d hq hqm hqo QM hkl=> ?_,fun hk0=> ?_⟩
   ·rw[hd] at h3;simpa using h3
   ·rcases h4 q hqm with h|h
    ·omega
    ·simp only[hqo,QM,Bool.not_eq_true',List.contains_eq_mem,decide_eq_false_iff_not] at h;exact h hkl
   ·rcases h5 with h|h
    ·omega
    ·exact h
  ·cases h
 ·cases h
theorem oL{ops:List Oper}{m:Nat}{is:List (Nat×Option Nat)}(h:eu ops m is=true): ∀{b a:Nat},a<b->b<is.length->oZ is a<oZ is b
 |0,a,h1,_=>by omega
 |b+1,a,h1,h2=>by
  obtain⟨_,_,_,_,_,_,_,h3⟩:=bG h h2;have h4:=(h3 (by omega)).2;simp only[Nat.add_sub_cancel] at h4;rcases Nat.lt_or_ge a b with h5|h5
  ·exact Nat.lt_trans (oL h h5 (by omega)) h4
  ·obtain rfl:a=b:=by omega
   exact h4
theorem AL{ops:List Oper}{m:Nat}{is:List (Nat×Option Nat)}(h:eu ops m is=true){a b:Nat}(ha:a<is.length)(hb:b<is.length)(he:oZ is a=oZ is b):a=b:=by
 rcases Nat.lt_trichotomy a b with h1|h1|h1
 ·have:=oL h h1 hb;omega
 ·exact h1
 ·have:=oL h h1 ha;omega
structure InvM(s:St)(ops:List Oper)(m:Nat)(is:List (Nat×Option Nat))(V:List (AV×List aC))(t1:List (Nat×AV))(j0:J0)(k0:Nat)(listed:Array Bool)(j:Js)(a:Act)(w:World):Prop extends Core s.N s.t t1 (fun _=>True) ops m j0 listed j a w where
 cZ:aS w j (tS s.σ V k0)
 len0:j0.js.length<=j.length
 ag:Ag j0.js j s.mv
 OL:k0<=is.length
 done: ∀k,k<is.length->listed.getD (oZ is k) true=decide (k<k0)
section
variable {P : Program} {ops : List Oper} {m : Nat} {is : List (Nat × Option Nat)} {V : List (AV × List aC)} {SK : List (List Nat)}
structure PureM(P:Program)(s:St)(ops:List Oper)(m:Nat)(is:List (Nat×Option Nat))(V:List (AV×List aC))(SK:List (List Nat))(t1:List (Nat×AV)):Prop where
 at_: ∀k,k<=is.length->∃xs:Nat->AV,(dF s (ops.take m) xs m).t=t1/\(∀i r,get (Qm is V) i=some r->xs i=r)/\
  ∀i o,i<m->ops[i]? =some o->get (Qm is V) i=none->vH (skS SK k) i=false->Local P ops o ⟨s.N,(dF s (ops.take m) xs i).t,tS s.σ V k,s.mv⟩ (xs i)
def og(ops:List Oper)(m:Nat)(is:List (Nat×Option Nat))(SK:List (List Nat)):Bool:=
 Nat.beq SK.length is.length&&(List.range is.length).all fun k=>(match ops[oZ is k]? with
  |some o=>(SK.getD k []).all fun i=>Nat.blt i m&&Gx ops m 3 o i
  |none=>false)
theorem zh{ops:List Oper}{m:Nat}{is:List (Nat×Option Nat)}{SK:List (List Nat)}(h:og ops m is SK=true){k i:Nat}(hk:k<is.length)(hi:vH (SK.getD k []) i=true): ∃o,ops[oZ is k]? =some o/\i<m/\Gx ops m 3 o i=true:=by
 unfold og at h;simp only[Bool.and_eq_true,List.all_eq_true,List.mem_range] at h;have h1:=h.2 k hk;split at h1
 ·rename_i o ho;have h2:=(List.all_eq_true.1 h1) i (memN_iff.1 hi);simp only[Bool.and_eq_true,Nat.blt_eq] at h2;exact⟨o,ho,h2⟩
 ·cases h1
structure OwnM(P:Program)(ops:List Oper)(is:List (Nat×Option Nat))(V:List (AV×List aC))(s:St)(t1:List (Nat×AV)):Prop where
 len:V.length=is.length
 act: ∀k,k<is.length->∃o,ops[oZ is k]? =some o/\Hr P o ⟨s.N,t1,tS s.σ V k,s.mv⟩ fun r' σ'=>r'=(V.getD k (.undef,[])).1/\σ'=(V.getD k (.undef,[])).2
theorem phaseM(hok:dW ops m=true)(hmn:m<=ops.length)(hch:eu ops m is=true)(hsk:og ops m is SK=true){Q:Exit->St->Prop}{j0:J0}{j1:Js}{w1:World}{s:St}{t1:List (Nat×AV)}
  (hW:OwnM P ops is V s t1) (hP:PureM P s ops m is V SK t1)
  (hK:bI P false ops (ops.drop m) ⟨s.N,t1,tS s.σ V is.length,s.mv⟩ (Q .normal)):
  ∀(fuel:Nat) (j:Js) (a:Act) (w:World) (listed:Array Bool),left listed ops.length=fuel->(∃k0,InvM s ops m is V t1 j0 k0 listed j a w)->Ev j1 w1 j w->wpAnyIn (FW j0.rd) 0 P .any ops.toArray (D5 j0 j1 w1 Q) fuel listed a w:=by
 refine UF hok hmn (fun listed j a w=> ∃k0,InvM s ops m is V t1 j0 k0 listed j a w) ?_ ?_ ?_
 ·rintro listed j a w ⟨k0,hI⟩;exact⟨_,_,_,_,hI.toCore⟩
 ·rintro listed j a w ⟨k0,hI⟩ hdone;obtain rfl:k0=is.length:=by
   rcases Nat.lt_or_ge k0 is.length with h|h
   ·obtain⟨_,_,_,_,h1,_⟩:=bG hch h;have h2:=hI.done k0 h;rw[hdone _ h1] at h2;simp at h2
   ·have:=hI.OL;omega
  obtain⟨xs,hxs,_,_⟩:=hP.at_ 0 (Nat.zero_le _);exact⟨⟨s.N,t1,tS s.σ V is.length,s.mv⟩,⟨hI.defers,hI.jw,hI.size,fun k av hk=>hI.toCore.done hxs hdone hk,hI.cZ,hI.len0,hI.ag⟩,hK⟩
 ·rintro listed j a w i o next ⟨k0,hI⟩ him ho h0 hall hn
  have hil:i<ops.length:=by omega
  have U2:i<listed.size:=by rw[hI.lsize];exact hil
  have step: ∀(j':Js) (w':World) (v:Value) (k1:Nat),aS w' j' (tS s.σ V k1)->Ev j w j' w'->Ag j j' []->j.length<=j'.length->
    k1<=is.length->(∀k,k<is.length->(listed.setIfInBounds i true).getD (oZ is k) true=decide (k<k1))->
    (∀k av,o.dst=some k->get t1 k=some av->k<s.N/\R w' j' av v)->next (a.put o.dst v) w':=by
   intro j' w' v k1 mZ hev hagj hlj hk1 hdn hv;have mono: ∀{av:AV} {v:Value},R w j av v->R w' j' av v:=fun hR=>hR.kM hev hI.cZ.lt hagj;refine hn j' v w' ⟨k1,hI.toCore.step hok hmn him ho hall hev (fun k av h _=>⟨av,h,fun _=>mono⟩) (fun k av h=>⟨av,h,fun _ h1 h2=>⟨h1,mono h2⟩⟩) hv,mZ,Nat.le_trans hI.len0 hlj,fun b hb hn=> ?_,hk1,hdn⟩ hev;rw[hagj b (by have:=hI.len0;omega) (by simp)];exact hI.ag b hb hn
  cases hia:get (Qm is V) i with
  |some r=>
   obtain⟨k,hkl,rfl,rfl⟩:=Xg hia;obtain⟨oa,hoa,hgd,hdst,_,hself,tK,hprev⟩:=bG hch hkl;obtain rfl:o=oa:=by rw[ho] at hoa;exact Option.some.inj hoa
   obtain⟨ob,hob,hact⟩:=hW.act k hkl;obtain rfl:o=ob:=by rw[ho] at hob;exact Option.some.inj hob
   have hkk:k=k0:=by
    have h1:=hI.done k hkl;rw[h0] at h1;have h2:k0<=k:=by simpa using h1
    rcases Nat.lt_or_ge k0 k with h3|h3
    ·have h4:=hI.toCore.far hall (hprev (by omega)).1;have h5:=oL hch (a:=k-1) (b:=k) (by omega) hkl;rw[iV hI.lsize (show oZ is (k-1)<ops.length by omega),hI.done (k-1) (by omega)] at h4;have:k-1<k0:=by simpa using h4
     omega
    ·omega
   subst hkk;obtain⟨xs,hxs,hxa,hloc⟩:=hP.at_ 0 (Nat.zero_le _);have hr:Rel j0 ((⟨s.N,t1,tS s.σ V k,s.mv⟩:St).bf (looks ops o)) j a w:=by
    refine⟨hI.defers,hI.jw,hI.size,fun q' av hk=> ?_,hI.cZ,hI.len0,hI.ag⟩;simp only[St.bf,iE] at hk;split at hk
    ·rename_i hkl;exact hI.toCore.late hok hmn hxs him ho hall hself tK (by simpa using hkl) hk
    ·simp at hk
   have hw:Region.wanted o (yielded ops.toArray a.tmps)=true:=by simp[Region.wanted,hgd]
   rw[if_pos hw];refine EN hact hr fun v w' r' σ' j' h6 h7 h8 h9 h10 h11=> ?_;obtain⟨rfl,rfl⟩:=h11;refine step j' w' v (k+1) h6 h8 h9 h10 hkl (fun q hq=> ?_) (fun q av hq hgt=> ?_)
   ·by_cases hqk:q=k
    ·subst hqk;simp[U2]
    ·rw[getD_set_ne true (fun h=>hqk (AL hch hq hkl h.symm)),hI.done q hq];congr 1;apply propext;omega
   ·rw[←hxs,kW hok hmn him ho hq him (Nat.le_refl _),hxa _ _ hia] at hgt;split at hgt
    ·rename_i hlt;obtain rfl:=Option.some.inj hgt;exact⟨hlt,h7⟩
    ·simp at hgt
  |none=>
   obtain⟨xs,hxs,hxa,hloc⟩:=hP.at_ k0 hI.OL;have hns:vH (skS SK k0) i=false:=by
    rw[←Bool.not_eq_true];intro hs;cases hk:k0 with
    |zero=>rw[hk] at hs;simp[skS,vH] at hs
    |succ k=>
     rw[hk] at hs;have hkl:k<is.length:=by have:=hI.OL;omega
     obtain⟨ob,hob,him2,hd⟩:=zh hsk hkl hs;obtain⟨oa,hoa,_,_,hlt,_⟩:=bG hch hkl;have hl:listed.getD (oZ is k) true=true:=by rw[hI.done k hkl];simp;omega
     have:=hI.toCore.far (fun e he1 he2=>hI.cl _ ob hlt hob hl e he1 he2) hd;rw[iV hI.lsize hil,h0] at this;cases this
   have hL:=hloc i o him ho hia hns;have hrel:Rel j0 ((⟨s.N,(dF s (ops.take m) xs i).t,tS s.σ V k0,s.mv⟩:St).bf (looks ops o)) j a w:=by
    refine⟨hI.defers,hI.jw,hI.size,fun k av hk=> ?_,hI.cZ,hI.len0,hI.ag⟩;simp only[St.bf,iE] at hk;split at hk
    ·rename_i hkl;exact hI.toCore.looks hok hmn hxs him ho h0 hall (by simpa using hkl) hk
    ·simp at hk
   have hdn: ∀k,k<is.length->(listed.setIfInBounds i true).getD (oZ is k) true=decide (k<k0):=by
    intro k hk;rw[getD_set_ne true (fun h=>Xh hW.len hia k hk h.symm),hI.done k hk]
   have hval: ∀(w':World) (v:Value),R w' j (xs i) v->∀k av,o.dst=some k->get t1 k=some av->k<s.N/\R w' j av v:=by
    intro w' v hr k av hk hgt;rw[←hxs,kW hok hmn him ho hk him (Nat.le_refl _)] at hgt;split at hgt
    ·rename_i hlt;obtain rfl:xs i=av:=Option.some.inj hgt;exact⟨hlt,hr⟩
    ·simp at hgt
   by_cases hw:Region.wanted o (yielded ops.toArray a.tmps)=true
   ·rw[if_pos hw];exact hL.run j0 j a w _ _ hrel hw fun w' v h1 h2 h3=>step j w' v k0 h1 h2 (.refl _ _) (Nat.le_refl _) hI.OL hdn (hval w' v h3)
   ·rw[if_neg hw];exact step j w Go.undef k0 hI.cZ (.refl _ _) (.refl _ _) (Nat.le_refl _) hI.OL hdn (hval w _ (hL.skip j0 j a w hrel (by simpa using hw)))
end
def Hq(P:Program)(ops:List Oper)(N:Nat)(t1:List (Nat×AV))(mv:List Nat):List aC->List (Nat×Option Nat)->List (AV×List aC)->Prop
 |σ,x::xs,v::vs=>(match ql ops x.1 with
  |some o=>Hr P o ⟨N,t1,σ,mv⟩ fun r' σ'=>r'=v.1/\σ'=v.2
  |none=>False)/\Hq P ops N t1 mv v.2 xs vs
 |_,[],[]=>True
 |_,_,_=>False
theorem TK{P:Program}{ops:List Oper}{N:Nat}{t1:List (Nat×AV)}{mv:List Nat} : ∀{is:List (Nat×Option Nat)} {V:List (AV×List aC)} {σ:List aC},Hq P ops N t1 mv σ is V->V.length=is.length/\
  ∀k,k<is.length->∃o,ops[oZ is k]? =some o/\Hr P o ⟨N,t1,tS σ V k,mv⟩ fun r' σ'=>r'=(V.getD k (.undef,[])).1/\σ'=(V.getD k (.undef,[])).2
 |[],[],σ,h=>⟨rfl,fun k hk=>by simp at hk⟩
 |[],v::vs,σ,h=>h.elim
 |x::xs,[],σ,h=>h.elim
 |x::xs,v::vs,σ,h=>by
  obtain⟨h1,h2⟩:=h;obtain⟨h3,h4⟩:=TK h2;refine⟨by simp[h3],fun k hk=> ?_⟩;rcases k with _|k
  ·rw[jc] at h1;split at h1
   ·rename_i o ho;exact⟨o,by simpa[oZ] using ho,by simpa[tS] using h1⟩
   ·exact h1.elim
  ·obtain⟨o,ho,ha⟩:=h4 k (by simpa using hk);refine⟨o,by simpa[oZ] using ho,?_⟩;have e:tS σ (v::vs) (k+1)=tS v.2 vs k:=by cases k<;>rfl
   rw[e];simpa using ha
def wH(P:Program)(ops:List Oper)(rs t1:List (Nat×AV))(N:Nat)(t:List (Nat×AV))(mv:List Nat)(m:Nat):List (AV×List aC)->List (List Nat)->Prop
 |v::vs,sk::sks=>(∀K:St->Prop,(∀σ' mv',K ⟨N,t1,σ',mv'⟩)->jG P ops rs sk t1 (ops.take m) 0 ⟨N,t,v.2,mv⟩ K)/\wH P ops rs t1 N t mv m vs sks
 |[],[]=>True
 |_,_=>False
theorem LZ{P:Program}{ops:List Oper}{rs t1:List (Nat×AV)}{N:Nat}{t:List (Nat×AV)}{mv:List Nat}{m:Nat}{σ:List aC} : ∀{V:List (AV×List aC)} {SK:List (List Nat)},wH P ops rs t1 N t mv m V SK->∀k,k<V.length->
  ∀K:St->Prop,(∀σ' mv',K ⟨N,t1,σ',mv'⟩)->jG P ops rs (skS SK (k+1)) t1 (ops.take m) 0 ⟨N,t,tS σ V (k+1),mv⟩ K
 |[],_,_,k,hk=>by simp at hk
 |v::vs,[],h,k,hk=>h.elim
 |v::vs,sk::sks,h,k,hk=>by
  rcases k with _|k
  ·exact h.1
  ·have:=LZ (σ:=σ) h.2 k (by simpa using hk);simpa[skS,tS] using this
theorem wC{P:Program}{Q:Exit->St->Prop}{N:Nat}{t:List (Nat×AV)}{σ:List aC}{mv:List Nat}{id:Nat}{ops:List Oper}{m:Nat}{is:List (Nat×Option Nat)}{SK:List (List Nat)}{V:List (AV×List aC)}(hm:P.follows .mixedOrders=true)(hok:dW ops m=true)(hmn:m<=ops.length)(hch:eu ops m is=true)(hsk:og ops m is SK=true){t1:List (Nat×AV)}
  (hP:PureM P ⟨N,t,σ,mv⟩ ops m is V SK t1) (hW:OwnM P ops is V ⟨N,t,σ,mv⟩ t1)
  (h3:bI P false ops (ops.drop m) ⟨N,t1,tS σ V is.length,mv⟩ (Q .normal)):dY P (.region id ops.toArray true) Q ⟨N,t,σ,mv⟩:=by
 intro j0 j a w hr;have hr':Rel j0 ⟨N,t,σ,mv⟩ j a w.drew:=hr.after (gY j w) hr.cZ.drew (Nat.le_refl _) (.refl _ []);refine wpIn_region_any hm (phaseM hok hmn hch hsk hW hP h3 _ j a w.drew _ ?_ ⟨0,.start hmn hr' fun _ _ _=>trivial,hr'.cZ,hr'.len0,hr'.ag,Nat.zero_le _,fun k hk=> ?_⟩ (gY j w))
 ·rw[xk];simp
 ·obtain⟨_,_,_,_,h4,_⟩:=bG hch hk;simp[show oZ is k<ops.length by omega]
theorem awp_mix{P:Program}{Q:Exit->St->Prop}{N:Nat}{t:List (Nat×AV)}{σ:List aC}{mv:List Nat}{id:Nat}{ops:List Oper}(m:Nat)(is:List (Nat×Option Nat))(SK:List (List Nat))(V:List (AV×List aC))(hm:P.follows .mixedOrders=true)(hok:(dW ops m&&Nat.ble m ops.length&&eu ops m is&&og ops m is SK)=true){t1:List (Nat×AV)}
  (h1: ∀K:St->Prop,(∀σ' mv',K ⟨N,t1,σ',mv'⟩)->jG P ops (Qm is V) [] [] (ops.take m) 0 ⟨N,t,σ,mv⟩ K)
  (h4:wH P ops (Qm is V) t1 N t mv m V SK)
  (h2:Hq P ops N t1 mv σ is V)
  (h3:bI P false ops (ops.drop m) ⟨N,t1,tS σ V is.length,mv⟩ (Q .normal)):dY P (.region id ops.toArray true) Q ⟨N,t,σ,mv⟩:=by
 simp only[Bool.and_eq_true,Nat.ble_eq] at hok;obtain⟨⟨⟨hok,hmn⟩,hch⟩,hsk⟩:=hok;obtain⟨hlen,hact⟩:=TK h2;have mk: ∀(k:Nat) (t2:List (Nat×AV)),(∀K:St->Prop,(∀σ' mv',K ⟨N,t1,σ',mv'⟩)->jG P ops (Qm is V) (skS SK k) t2 (ops.take m) 0 ⟨N,t,tS σ V k,mv⟩ K)->∃xs:Nat->AV,(dF ⟨N,t,σ,mv⟩ (ops.take m) xs m).t=t1/\(∀i r,get (Qm is V) i=some r->xs i=r)/\
   ∀i o,i<m->ops[i]? =some o->get (Qm is V) i=none->vH (skS SK k) i=false->Local P ops o ⟨N,(dF ⟨N,t,σ,mv⟩ (ops.take m) xs i).t,tS σ V k,mv⟩ (xs i):=by
  intro k t2 h;have h:=h (fun s'=>s'.t=t1) (fun _ _=>rfl);have hlen:(ops.take m).length=m:=by simp;omega
  obtain⟨xs,hK,hia,hloc⟩:=ES h;have hext:=Steps.qV ⟨N,t,σ,mv⟩ (tS σ V k) (ops.take m) xs;refine⟨xs,?_,fun i r hi=>hia i r (by simpa using hi),fun i o him ho h3 h4=> ?_⟩
  ·rw[hlen,hext] at hK;exact hK
  ·have:=hloc i o (by rw[jU him];exact ho) (by simpa using h3) (by simpa using h4);rw[hext] at this;exact this
 have hP:PureM P ⟨N,t,σ,mv⟩ ops m is V SK t1:=⟨fun k hk=>by
  rcases k with _|k
  ·exact mk 0 [] h1
  ·exact mk (k+1) t1 (LZ h4 k (by omega))⟩
 exact wC hm hok hmn hch hsk hP ⟨hlen,hact⟩ h3
theorem Zl{P:Program}{Q:Exit->St->Prop}{N:Nat}{t:List (Nat×AV)}{σ:List aC}{mv:List Nat}{id:Nat}{ops:List Oper}(m:Nat)(is:List (Nat×Option Nat))(SK:List (List Nat))(V:List (AV×List aC))(hm:P.follows .mixedOrders=true)(hok:(dW ops m&&Nat.ble m ops.length&&eu ops m is&&og ops m is SK)=true){t1:List (Nat×AV)}
  (h1: ∀K:St->Prop,(∀σ' mv',K ⟨N,t1,σ',mv'⟩)->jG P ops (Qm is V) [] [] (ops.take m) 0 ⟨N,t,σ,mv⟩ K)
  (h4:wH P ops (Qm is V) t1 N t mv m V SK)
  (h2:Hq P ops N t1 mv σ is V)
  (h3: ∀K:St->Prop,(∀s',Q .normal s'->K s')->bI P false ops (ops.drop m) ⟨N,t1,tS σ V is.length,mv⟩ K):dY P (.region id ops.toArray true) Q ⟨N,t,σ,mv⟩:=
 awp_mix m is SK V hm hok h1 h4 h2 (h3 _ fun s' h=>h)
theorem gJ{P:Program}{Q:Exit->St->Prop}{N:Nat}{t:List (Nat×AV)}{σ:List aC}{mv:List Nat}{id:Nat}{ops:List Oper}{y:Code}(m:Nat)(is:List (Nat×Option Nat))(SK:List (List Nat))(V:List (AV×List aC))(hm:P.follows .mixedOrders=true)(hok:(dW ops m&&Nat.ble m ops.length&&eu ops m is&&og ops m is SK)=true){t1:List (Nat×AV)}
  (h1: ∀K:St->Prop,(∀σ' mv',K ⟨N,t1,σ',mv'⟩)->jG P ops (Qm is V) [] [] (ops.take m) 0 ⟨N,t,σ,mv⟩ K)
  (h4:wH P ops (Qm is V) t1 N t mv m V SK)
  (h2:Hq P ops N t1 mv σ is V)
  (h3: ∀K:St->Prop,(∀s',dY P y Q s'->K s')->bI P false ops (ops.drop m) ⟨N,t1,tS σ V is.length,mv⟩ K):dY P (.seq (.region id ops.toArray true) y) Q ⟨N,t,σ,mv⟩:=
 aK (awp_mix m is SK V hm hok h1 h4 h2 (h3 _ fun s' h=>h))
theorem iY{P:Program}{ops:List Oper}{rs t1:List (Nat×AV)}{N:Nat}{t:List (Nat×AV)}{mv:List Nat}{m:Nat} :wH P ops rs t1 N t mv m [] []:=trivial
theorem bM{P:Program}{ops:List Oper}{rs t1:List (Nat×AV)}{N:Nat}{t:List (Nat×AV)}{mv:List Nat}{m:Nat}{v:AV×List aC}{vs:List (AV×List aC)}{sk:List Nat}{sks:List (List Nat)}
  (h: ∀K:St->Prop,(∀σ' mv',K ⟨N,t1,σ',mv'⟩)->jG P ops rs sk t1 (ops.take m) 0 ⟨N,t,v.2,mv⟩ K) (h2:wH P ops rs t1 N t mv m vs sks):wH P ops rs t1 N t mv m (v::vs) (sk::sks):=⟨h,h2⟩
theorem kC{P:Program}{ops:List Oper}{N:Nat}{t1:List (Nat×AV)}{mv:List Nat}{σ:List aC} :Hq P ops N t1 mv σ [] []:=trivial
theorem cu{P:Program}{ops:List Oper}{N:Nat}{t1:List (Nat×AV)}{mv:List Nat}{σ:List aC}{x:Nat×Option Nat}{xs:List (Nat×Option Nat)}{v:AV×List aC}{vs:List (AV×List aC)}
  (h:match ql ops x.1 with
   |some o=>Hr P o ⟨N,t1,σ,mv⟩ fun r' σ'=>r'=v.1/\σ'=v.2
   |none=>False) (h2:Hq P ops N t1 mv v.2 xs vs):Hq P ops N t1 mv σ (x::xs) (v::vs):=⟨h,h2⟩
def RestM(P:Program)(all:List Oper)(rs:List (Nat×AV))(sk:List Nat)(t1:List (Nat×AV))(os:List Oper)(i:Nat)(K:St->Prop)(s:St):Prop:=jG P all rs sk t1 os i s K
theorem evalM_nil(P:Program)(all:List Oper)(rs:List (Nat×AV))(sk:List Nat)(t1:List (Nat×AV))(i:Nat)(s:St)(K:St->Prop):jG P all rs sk t1 [] i s K=K s:=rfl
theorem evalM_cons(P:Program)(all os:List Oper)(rs:List (Nat×AV))(sk:List Nat)(t1:List (Nat×AV))(i:Nat)(o:Oper)(s:St)(K:St->Prop):jG P all rs sk t1 (o::os) i s K=match get rs i with
  |some r=>RestM P all rs sk t1 os (i+1) K (s.put o.dst r)
  |none=>if vH sk i then RestM P all rs sk t1 os (i+1) K (s.put o.dst (hadM t1 o))
   else jA all s o fun gd g=>UK P true gd g o s (RestM P all rs sk t1 os (i+1) K):=rfl
theorem Zz(P:Program)(all os:List Oper)(rs:List (Nat×AV))(sk:List Nat)(t1:List (Nat×AV))(i:Nat)(K:St->Prop)(N:Nat)(t:List (Nat×AV))(σ:List aC)(mv:List Nat):RestM P all rs sk t1 os i K ⟨N,t,σ,mv⟩=jG P all rs sk t1 os i ⟨N,t,σ,mv⟩ K:=rfl
attribute [go_sem ↓] evalM_nil evalM_cons Zz Hr
attribute [go_sem] Zz vH Qm hadM tS Hq wH
end Go.aU.Mix
namespace Go.aU
open Go.aU.Mix
open Go.aU.Steps (oZ ZF)
theorem Zn{P:Program}{Q:Exit->St->Prop}{s:St}{id:Nat}{ops:List Oper}(m:Nat)(hm:P.follows .mixedOrders=true)(hok:(dW ops m&&Nat.ble m ops.length)=true)
  (h:bI P true ops (ops.take m) s fun s'=>bI P false ops (ops.drop m) s' (Q .normal)):dY P (.region id ops.toArray true) Q s:=by
 simp only[Bool.and_eq_true,Nat.ble_eq] at hok;obtain⟨xs,hK,hloc⟩:=unroll h;have hlen:(ops.take m).length=m:=by simp;omega
 have he: ∀i,dF s (ops.take m) xs i=⟨s.N,(dF s (ops.take m) xs i).t,s.σ,s.mv⟩:=fun i=>by
  have h1:=sV s (ops.take m) xs i;cases e:dF s (ops.take m) xs i
  rw[e] at h1;simp only at h1;rw[h1.1,h1.2.1,h1.2.2]
 rw[hlen,he m] at hK;exact wC (N:=s.N) (t:=s.t) (σ:=s.σ) (mv:=s.mv) (is:=[]) (SK:=[]) (V:=[]) hm hok.1 hok.2 rfl rfl ⟨fun k hk=>⟨xs,rfl,fun i r h=>by simp[Qm,aU.get] at h,fun i o hi ho _ _=>by
  obtain rfl:k=0:=by simpa using hk
  have:=hloc i o (by rw[jU hi];exact ho);rw[he i] at this;exact this⟩⟩ ⟨rfl,fun k hk=>by simp at hk⟩ hK
section
variable {P : Program} {Q : Exit -> St -> Prop} {s : St}
theorem qI{id:Nat}{ops:List Oper}{y:Code}(m:Nat)(hm:P.follows .mixedOrders=true)(hok:(dW ops m&&Nat.ble m ops.length)=true)(h: ∀K:St->Prop,(∀s',dY P y Q s'->K s')->bI P true ops (ops.take m) s (Rest P false ops (ops.drop m) K)):dY P (.seq (.region id ops.toArray true) y) Q s:=
 aK (Zn m hm hok (h _ fun _ h=>h))
theorem V5{id:Nat}{ops:List Oper}(m:Nat)(hm:P.follows .mixedOrders=true)(hok:(dW ops m&&Nat.ble m ops.length)=true)(h: ∀K:St->Prop,(∀s',Q .normal s'->K s')->bI P true ops (ops.take m) s (Rest P false ops (ops.drop m) K)):dY P (.region id ops.toArray true) Q s:=
 Zn m hm hok (h _ fun _ h=>h)
end
def kN(P:Program)(all:List Oper)(ia dN:Nat)(r:AV):List Oper->Nat->St->(St->Prop)->Prop
 |[],_,s,K=>K s
 |o::os,i,s,K=>if Nat.beq i ia then kN P all ia dN r os (i+1) (s.put o.dst r) K
  else if Nat.beq i dN then kN P all ia dN r os (i+1) s K
  else jA all s o fun gd g=>UK P true gd g o s fun s'=>kN P all ia dN r os (i+1) s' K
theorem TS{P:Program}{all:List Oper}{ia dN:Nat}{r:AV} : ∀{os:List Oper} {i0:Nat} {s:St} {K:St->Prop},kN P all ia dN r os i0 s K->
  (∀i o,os[i]? =some o->i0+i=dN->o.dst=none)->
  ∃xs:Nat->AV,K (dF s os xs os.length)/\(∀i,xs i=if i0+i=ia then r else if i0+i=dN then .undef else xs i)/\∀i o,os[i]? =some o->i0+i≠ia->i0+i≠dN->Local P all o (dF s os xs i) (xs i)
 |[],i0,s,K,h,_=>⟨fun i=>if i0+i=ia then r else .undef,h,fun i=>by dsimp only;split<;>simp,by simp⟩
 |o::os,i0,s,K,h,hd=>by
  have key: ∀x:AV,kN P all ia dN r os (i0+1) (s.put o.dst x) K->(x=if i0=ia then r else if i0=dN then .undef else x)->(i0≠ia->i0≠dN->Local P all o s x)->
    ∃xs:Nat->AV,K (dF s (o::os) xs (o::os).length)/\(∀i,xs i=if i0+i=ia then r else if i0+i=dN then .undef else xs i)/\∀i o',(o::os)[i]? =some o'->i0+i≠ia->i0+i≠dN->Local P all o' (dF s (o::os) xs i) (xs i):=by
   intro x h hx hl;obtain⟨xs,hK,hia,hloc⟩:=TS h (fun i o' hi he=>hd (i+1) o' (by simpa using hi) (by omega));have hst: ∀i,dF s (o::os) (fun|0=>x|i+1=>xs i) (i+1)=dF (s.put o.dst x) os xs i:=by
    intro i;induction i with
    |zero=>rfl
    |succ i ih=>
     show(match(o::os)[i+1]? with|some o'=>(dF s (o::os) (fun|0=>x|i+1=>xs i) (i+1)).put o'.dst (xs i)|none=>dF s (o::os) (fun|0=>x|i+1=>xs i) (i+1))=_
     rw[ih];simp only[List.getElem?_cons_succ];rfl
   refine⟨fun|0=>x|i+1=>xs i,?_,fun i=> ?_,fun i o' hi h1 h2=> ?_⟩
   ·rw[List.length_cons,hst];exact hK
   ·cases i with
    |zero=>simpa using hx
    |succ i=>have:=hia i;rw[show i0+1+i=i0+(i+1) by omega] at this;exact this
   ·cases i with
    |zero=>simp at hi;subst hi;exact hl (by simpa using h1) (by simpa using h2)
    |succ i=>rw[hst];exact hloc i o' (by simpa using hi) (by omega) (by omega)
  simp only[kN] at h;by_cases h1:i0=ia
  ·rw[if_pos (by simpa using h1)] at h;exact key _ h (by rw[if_pos h1]) (fun h2=>absurd h1 h2)
  ·rw[if_neg (by simpa using h1)] at h;by_cases h2:i0=dN
   ·rw[if_pos (by simpa using h2)] at h;have hdn:=hd 0 o (by simp) (by simpa using h2);exact key .undef (by rw[hdn];exact h) (by rw[if_neg h1,if_pos h2]) (fun _ h3=>absurd h2 h3)
   ·rw[if_neg (by simpa using h2)] at h;obtain⟨x,hl,h⟩:=F5 h;exact key x h (by rw[if_neg h1,if_neg h2]) (fun _ _=>hl)
theorem Xo{P:Program}{ops:List Oper}{m ia dN N:Nat}{r:AV}{t t1:List (Nat×AV)}{σ σx:List aC}{mv:List Nat}(hmn:m<=ops.length)(hd: ∀o,ops[dN]? =some o->o.dst=none)
  (h: ∀K:St->Prop,(∀σ' mv',K ⟨N,t1,σ',mv'⟩)->kN P ops ia dN r (ops.take m) 0 ⟨N,t,σx,mv⟩ K):
  ∃xs:Nat->AV,(dF ⟨N,t,σ,mv⟩ (ops.take m) xs m).t=t1/\(∀i,xs i=if i=ia then r else if i=dN then .undef else xs i)/\∀i o,i<m->ops[i]? =some o->i≠ia->i≠dN->Local P ops o ⟨N,(dF ⟨N,t,σ,mv⟩ (ops.take m) xs i).t,σx,mv⟩ (xs i):=by
 have h:=h (fun s'=>s'.t=t1) (fun _ _=>rfl);have hlen:(ops.take m).length=m:=by simp;omega
 obtain⟨xs,hK,hia,hloc⟩:=TS h (fun i o hi he=>by
  have him:i<m:=by have:=lt_of_getElem? hi;omega
  rw[jU him] at hi;exact hd o (by rw[←he,Nat.zero_add];exact hi))
 have hext:=Steps.qV ⟨N,t,σ,mv⟩ σx (ops.take m) xs;refine⟨xs,?_,fun i=>by have:=hia i;rwa [Nat.zero_add] at this,fun i o him ho h3 h4=> ?_⟩
 ·rw[hlen,hext] at hK;exact hK
 ·have:=hloc i o (by rw[jU him];exact ho) (by omega) (by omega);rw[hext] at this;exact this
def acA(P:Program)(ops:List Oper)(i:Nat)(s:St)(K:AV->List aC->Prop):Prop:=
 match ql ops i with
 |some o=>Hr P o s K
 |none=>False
theorem E8{ops:List Oper}{m:Nat}{is:List (Nat×Option Nat)}(h:eu ops m is=true):og ops m is (is.map fun _=>[])=true:=by
 unfold og;simp only[List.length_map,Nat.beq_refl,Bool.true_and,List.all_eq_true,List.mem_range];intro k hk;obtain⟨o,ho,_⟩:=bG h hk;rw[ho];have:(is.map fun _=>([]:List Nat)).getD k []=[]:=by simp[List.getD_eq_getElem?_getD,hk]
 rw[this];rfl
def Gt(ops:List Oper)(i:Nat):Option Nat:=match ops[i]? with|some o=>o.dst|none=>none
def lateOk(ops:List Oper)(m dN:Nat):Bool:=eu ops m [(dN,none)]
def aao(ops:List Oper)(m ia:Nat)(_:FuncId):Bool:=eu ops m [(ia,Gt ops ia)]
theorem get1{i k:Nat}{a r:AV}(h:get [(k,a)] i=some r):i=k/\r=a:=by
 simp only[aU.get] at h;split at h
 ·rename_i e;exact⟨(by simpa using e:k=i).symm,(Option.some.inj h).symm⟩
 ·cases h
theorem get1n{i k:Nat}{a:AV}(h:get [(k,a)] i=none):i≠k:=fun e=>by
 subst e;simp[aU.get] at h
section
variable {P : Program} {Q : Exit -> St -> Prop} {N : Nat} {t : List (Nat × AV)} {σ : List aC} {mv : List Nat} {id : Nat} {ops : List Oper} {y : Code} {t1 : List (Nat × AV)} {σ2 : List aC}
theorem awp_late(m dN:Nat)(hm:P.follows .mixedOrders=true)(hok:(dW ops m&&Nat.ble m ops.length&&lateOk ops m dN)=true)
  (h1: ∀K:St->Prop,(∀σ' mv',K ⟨N,t1,σ',mv'⟩)->kN P ops m dN .undef (ops.take m) 0 ⟨N,t,σ,mv⟩ K)
  (h2:acA P ops dN ⟨N,t1,σ,mv⟩ fun r σ'=>r= .undef/\σ'=σ2)
  (h3: ∀K:St->Prop,(∀σ' mv',K ⟨N,t1,σ',mv'⟩)->kN P ops m dN .undef (ops.take m) 0 ⟨N,t,σ2,mv⟩ K)
  (h4:bI P false ops (ops.drop m) ⟨N,t1,σ2,mv⟩ (Q .normal)):dY P (.region id ops.toArray true) Q ⟨N,t,σ,mv⟩:=by
 simp only[Bool.and_eq_true,Nat.ble_eq] at hok;obtain⟨⟨hok,hmn⟩,hch⟩:=hok;have hch:eu ops m [(dN,none)]=true:=hch;obtain⟨o,ho,_,hd,hlt,_⟩:=bG hch (k:=0) (by simp);have hd': ∀o',ops[dN]? =some o'->o'.dst=none:=fun o' ho'=>by
  have ho:ops[dN]? =some o:=ho;rw[ho] at ho';cases ho';exact hd
 refine wC (is:=[(dN,none)]) (V:=[(.undef,σ2)]) hm hok hmn hch (E8 hch) ⟨fun k hk=> ?_⟩ ⟨rfl,fun k hk=> ?_⟩ h4
 ·have hk:k=0\/k=1:=by simp at hk;omega
  have: ∃xs:Nat->AV,(dF ⟨N,t,σ,mv⟩ (ops.take m) xs m).t=t1/\(∀i,xs i=if i=m then .undef else if i=dN then .undef else xs i)/\∀i o,i<m->ops[i]? =some o->i≠m->i≠dN->Local P ops o ⟨N,(dF ⟨N,t,σ,mv⟩ (ops.take m) xs i).t,tS σ [(.undef,σ2)] k,mv⟩ (xs i):=by
   rcases hk with rfl|rfl
   ·exact Xo hmn hd' h1
   ·exact Xo hmn hd' h3
  obtain⟨xs,g1,g2,g3⟩:=this;refine⟨xs,g1,fun i r hr=> ?_,fun i o' hi ho' hn _=>g3 i o' hi ho' (by omega) (get1n hn)⟩;obtain⟨rfl,rfl⟩:=get1 hr;rw[g2];split;rfl;rw[if_pos rfl]
 ·obtain rfl:k=0:=by simp at hk;omega
  refine⟨o,ho,?_⟩;unfold acA at h2;rw[jc,show ops[dN]? =some o from ho] at h2;exact h2
theorem V4(m dN:Nat)(hm:P.follows .mixedOrders=true)(hok:(dW ops m&&Nat.ble m ops.length&&lateOk ops m dN)=true)
  (h1: ∀K:St->Prop,(∀σ' mv',K ⟨N,t1,σ',mv'⟩)->kN P ops m dN .undef (ops.take m) 0 ⟨N,t,σ,mv⟩ K)
  (h2:acA P ops dN ⟨N,t1,σ,mv⟩ fun r σ'=>r= .undef/\σ'=σ2)
  (h3: ∀K:St->Prop,(∀σ' mv',K ⟨N,t1,σ',mv'⟩)->kN P ops m dN .undef (ops.take m) 0 ⟨N,t,σ2,mv⟩ K)
  (h4: ∀K:St->Prop,(∀s',Q .normal s'->K s')->bI P false ops (ops.drop m) ⟨N,t1,σ2,mv⟩ K):dY P (.region id ops.toArray true) Q ⟨N,t,σ,mv⟩:=
 awp_late m dN hm hok h1 h2 h3 (h4 _ fun s' h=>h)
theorem Zk(m ia:Nat)(f:FuncId)(r:AV)(blk:List aC)(hm:P.follows .mixedOrders=true)(hok:(dW ops m&&Nat.ble m ops.length&&aao ops m ia f)=true)
  (h1: ∀(τ:List aC) (K:St->Prop),(∀σ' mv',K ⟨N,t1,σ',mv'⟩)->kN P ops ia m r (ops.take m) 0 ⟨N,t,σ++τ,mv⟩ K)
  (h2:acA P ops ia ⟨N,t1,σ,mv⟩ fun r' σ'=>r'=r/\σ'=σ++blk)
  (h3:bI P false ops (ops.drop m) ⟨N,t1,σ++blk,mv⟩ (Q .normal)):dY P (.region id ops.toArray true) Q ⟨N,t,σ,mv⟩:=by
 simp only[Bool.and_eq_true,Nat.ble_eq] at hok;obtain⟨⟨hok,hmn⟩,hch⟩:=hok;have hch:eu ops m [(ia,Gt ops ia)]=true:=hch;obtain⟨o,ho,_,hd,hlt,_⟩:=bG hch (k:=0) (by simp);have hmm: ∀(τ:List aC),∃xs:Nat->AV,(dF ⟨N,t,σ,mv⟩ (ops.take m) xs m).t=t1/\xs ia=r/\∀i o,i<m->ops[i]? =some o->i≠ia->Local P ops o ⟨N,(dF ⟨N,t,σ,mv⟩ (ops.take m) xs i).t,σ++τ,mv⟩ (xs i):=fun τ=>by
  have h:=h1 τ (fun s'=>s'.t=t1) (fun _ _=>rfl);have hlen:(ops.take m).length=m:=by simp;omega
  obtain⟨xs,hK,hia,hloc⟩:=TS h (fun i o hi he=>by have:=lt_of_getElem? hi;omega);have hext:=Steps.qV ⟨N,t,σ,mv⟩ (σ++τ) (ops.take m) xs;refine⟨xs,?_,by rw[hia,Nat.zero_add,if_pos rfl],fun i o him ho h3=> ?_⟩
  ·rw[hlen,hext] at hK;exact hK
  ·have:=hloc i o (by rw[jU him];exact ho) (by omega) (by omega);rw[hext] at this;exact this
 refine wC (is:=[(ia,Gt ops ia)]) (V:=[(r,σ++blk)]) hm hok hmn hch (E8 hch) ⟨fun k hk=> ?_⟩ ⟨rfl,fun k hk=> ?_⟩ h3
 ·have hk:k=0\/k=1:=by simp at hk;omega
  have: ∃τ,tS σ [(r,σ++blk)] k=σ++τ:=by
   rcases hk with rfl|rfl
   ·exact⟨[],(List.append_nil σ).symm⟩
   ·exact⟨blk,rfl⟩
  obtain⟨τ,hτ⟩:=this;obtain⟨xs,g1,g2,g3⟩:=hmm τ;refine⟨xs,g1,fun i r' hr=> ?_,fun i o' hi ho' hn _=>by
   show Local P ops o' ⟨N,_,tS σ [(r,σ++blk)] k,mv⟩ (xs i)
   rw[hτ];exact g3 i o' hi ho' (get1n hn)⟩
  obtain⟨rfl,rfl⟩:=get1 hr;exact g2
 ·obtain rfl:k=0:=by simp at hk;omega
  refine⟨o,ho,?_⟩;unfold acA at h2;rw[jc,show ops[ia]? =some o from ho] at h2;exact h2
theorem qH(m ia:Nat)(f:FuncId)(r:AV)(blk:aC)(hm:P.follows .mixedOrders=true)(hok:(dW ops m&&Nat.ble m ops.length&&aao ops m ia f)=true)
  (h1: ∀(τ:List aC) (K:St->Prop),(∀σ' mv',K ⟨N,t1,σ',mv'⟩)->kN P ops ia m r (ops.take m) 0 ⟨N,t,σ++τ,mv⟩ K)
  (h2:acA P ops ia ⟨N,t1,σ,mv⟩ fun r' σ'=>r'=r/\σ'=σ++[blk])
  (h3: ∀K:St->Prop,(∀s',Q .normal s'->K s')->bI P false ops (ops.drop m) ⟨N,t1,σ++[blk],mv⟩ K):dY P (.region id ops.toArray true) Q ⟨N,t,σ,mv⟩:=
 Zk m ia f r [blk] hm hok h1 h2 (h3 _ fun s' h=>h)
theorem Ownl.V3(m ia:Nat)(f:FuncId)(r:AV)(blk:List aC)(hm:P.follows .mixedOrders=true)(hok:(dW ops m&&Nat.ble m ops.length&&aao ops m ia f)=true)
  (h1: ∀(τ:List aC) (K:St->Prop),(∀σ' mv',K ⟨N,t1,σ',mv'⟩)->kN P ops ia m r (ops.take m) 0 ⟨N,t,σ++τ,mv⟩ K)
  (h2:acA P ops ia ⟨N,t1,σ,mv⟩ fun r' σ'=>r'=r/\σ'=σ++blk)
  (h3: ∀K:St->Prop,(∀s',Q .normal s'->K s')->bI P false ops (ops.drop m) ⟨N,t1,σ++blk,mv⟩ K):dY P (.region id ops.toArray true) Q ⟨N,t,σ,mv⟩:=
 Zk m ia f r blk hm hok h1 h2 (h3 _ fun s' h=>h)
end
def OU(d:Option Nat)(o:Option Oper):Bool:=match o with
 |some o=>(match o.op,d with
  | .store _ (.tmp p) _,some d=>Nat.beq p d
  |_,_=>false)
 |none=>false
def Xq(ops:List Oper)(m ia dN:Nat):List (Nat×Option Nat):=if Nat.blt dN m then[(ia,Gt ops ia),(dN,none)] else[(ia,Gt ops ia)]
def ownOk(ops:List Oper)(m ia dN:Nat):Bool:=eu ops m (Xq ops m ia dN)&&(Nat.beq dN ops.length||(Nat.blt dN m&&OU (Gt ops ia) ops[dN]?))
def ownA(P:Program)(ops:List Oper)(ia dN:Nat)(s:St)(K:List AV->Prop):Prop:=
 match ql ops ia with
 |some oa=>(match oa.dst with
  |some d=>Nat.blt d s.N=true
  |none=>False)/\(match oa.op with
  | .alloc t=>(match dJ P t with
   |some z=>(match ql ops dN with
    |some os=>(match os.op with
     | .store t' _ v=>arg true s v fun av=>(match gQ P t' with
      |some (_,m)=>jD (cellsOf av)=true/\(cellsOf av).length=m/\z.length=m/\K (cellsOf av)
      |none=>False)
     |_=>False)
    |none=>K (z.map fun v=> .d (.v v)))
   |none=>False)
  |_=>False)
 |none=>False
theorem arg_ex{g:Bool}{s:St}{x:Operand}{K:AV->Prop}(h:arg g s x K): ∃av,K av/\∀(σ':List aC) (K':AV->Prop),K' av->arg g ⟨s.N,s.t,σ',s.mv⟩ x K':=by
 have hv: ∀σ',val ⟨s.N,s.t,σ',s.mv⟩ x=val s x:=fun σ'=>by cases x<;>rfl
 unfold arg at h;split at h
 ·rename_i b y he;exact⟨y,h.2,fun σ' K' hk=>by unfold arg;rw[hv,he];exact⟨h.1,hk⟩⟩
 ·rename_i y hn he;refine⟨y,h,fun σ' K' hk=> ?_⟩;unfold arg;rw[hv,he];cases y<;>first|exact hk|exact(hn _ _ rfl).elim
 ·exact h.elim
theorem store_own{P:Program}{tt:TypeId}{N:Nat}{t1:List (Nat×AV)}{σ:List aC}{mv:List Nat}{z:List AV}{av:AV}{b:Bool}{k:Nat}(h1:gQ P tt=some (b,k))(h2:jD (cellsOf av)=true)(h3:(cellsOf av).length=k)(h4:z.length=k):
  qU P tt ⟨N,t1,σ++[.var z],mv⟩ (.ptr σ.length 0) av fun s'=>(AV.undef= .undef)/\s'.σ=σ++[.var (cellsOf av)]:=by
 unfold qU;rw[h1];refine⟨h2,h3,?_⟩;have hs:kV (σ++[.var z]) (.ptr σ.length 0) (cellsOf av)=some (True,σ++[.var (cellsOf av)]):=by
  unfold kV;simp[h3,h4,jE]
 show(match kV (σ++[.var z]) (.ptr σ.length 0) (cellsOf av) with|some (side,σ')=>side/\_|none=>False)
 rw[hs];exact⟨trivial,rfl,rfl⟩
theorem get2{i a b:Nat}{x y r:AV}(h:get [(a,x),(b,y)] i=some r):(i=a/\r=x)\/(i≠a/\i=b/\r=y):=by
 simp only[aU.get] at h;split at h
 ·rename_i e;exact .inl ⟨(by simpa using e:a=i).symm,(Option.some.inj h).symm⟩
 ·rename_i e;split at h
  ·rename_i e2;exact .inr ⟨fun h9=>e (by simp[h9]),(by simpa using e2:b=i).symm,(Option.some.inj h).symm⟩
  ·cases h
theorem get2n{i a b:Nat}{x y:AV}(h:get [(a,x),(b,y)] i=none):i≠a/\i≠b:=by
 refine⟨fun e=> ?_,fun e=> ?_⟩
 ·subst e;simp[aU.get] at h
 ·subst e;simp only[aU.get] at h;split at h
  ·cases h
  ·simp at h
theorem awp_own{P:Program}{Q:Exit->St->Prop}{N:Nat}{t:List (Nat×AV)}{σ:List aC}{mv:List Nat}{id:Nat}{ops:List Oper}(m ia dN:Nat)(hm:P.follows .mixedOrders=true)(hok:(dW ops m&&Nat.ble m ops.length&&ownOk ops m ia dN)=true){t1:List (Nat×AV)}
  (h1: ∀(τ:List aC) (K:St->Prop),(∀σ' mv',K ⟨N,t1,σ',mv'⟩)->kN P ops ia dN (.ptr σ.length 0) (ops.take m) 0 ⟨N,t,σ++τ,mv⟩ K)
  (h2:ownA P ops ia dN ⟨N,t1,σ,mv⟩ fun c=>bI P false ops (ops.drop m) ⟨N,t1,σ++[.var c],mv⟩ (Q .normal)):dY P (.region id ops.toArray true) Q ⟨N,t,σ,mv⟩:=by
 simp only[Bool.and_eq_true,Nat.ble_eq] at hok;obtain⟨⟨hok,hmn⟩,hown⟩:=hok;unfold ownOk at hown;rw[Bool.and_eq_true] at hown;obtain⟨hch,hst⟩:=hown;unfold ownA at h2;rw[jc] at h2;cases hoa:ops[ia]? with
 |none=>rw[hoa] at h2;exact h2.elim
 |some oa=>
 rw[hoa] at h2;simp only at h2;obtain⟨hdN,h2⟩:=h2;cases hd:oa.dst with
 |none=>rw[hd] at hdN;exact hdN.elim
 |some d=>
 rw[hd] at hdN;have hdN:d<N:=by simpa using hdN
 have hda:Gt ops ia=some d:=by unfold Gt;rw[hoa];exact hd
 split at h2;case h_2=>exact h2.elim
 rename_i ty hop;split at h2;case h_2=>exact h2.elim
 rename_i z hz;have hgetd: ∀(ist':Nat),ist'≠ia->(∀o,ops[ist']? =some o->o.dst=none)->ia<m->(∀K:St->Prop,(∀σ' mv',K ⟨N,t1,σ',mv'⟩)->kN P ops ia ist' (.ptr σ.length 0) (ops.take m) 0 ⟨N,t,σ++[],mv⟩ K)->get t1 d=some (.ptr σ.length 0):=fun ist' hne hdn hlt h=>by
  obtain⟨xs,g1,g2,_⟩:=Xo (σ:=σ) hmn hdn h;rw[←g1,kW hok hmn hlt hoa hd hlt (Nat.le_refl _),if_pos hdN,g2 ia,if_pos rfl]
 rw[Bool.or_eq_true] at hst;by_cases hlt:dN<m
 ·have hist:OU (Gt ops ia) ops[dN]? =true:=by
   rcases hst with h|h
   ·have:dN=ops.length:=by simpa using h
    omega
   ·rw[Bool.and_eq_true] at h;exact h.2
  have hIs:Xq ops m ia dN=[(ia,some d),(dN,none)]:=by unfold Xq;rw[if_pos (by simpa using hlt),hda]
  rw[hIs] at hch;obtain⟨oa',hoa',_,_,hlta,_⟩:=bG hch (k:=0) (by simp);obtain⟨os,hos,_,hds,_,_,_,hdep⟩:=bG hch (k:=1) (by simp);have hne:ia<dN:=(hdep (by decide)).2;have hos:ops[dN]? =some os:=hos;have hlta:ia<m:=hlta;rw[jc,hos] at h2;simp only at h2;split at h2;case h_2=>exact h2.elim
  rename_i ty' p v hops;have hp:p= .tmp d:=by
   unfold OU at hist;rw[hos,hda] at hist;simp only[hops] at hist;cases p with
   |tmp q=>simp at hist;rw[hist]
   |_=>simp at hist
  subst hp;obtain⟨av,h2,hav⟩:=arg_ex h2;split at h2;case h_2=>exact h2.elim
  rename_i bb kk hty;obtain⟨c1,c2,c3,h2⟩:=h2;have hdn: ∀o,ops[dN]? =some o->o.dst=none:=fun o ho=>by rw[hos] at ho;cases ho;exact hds
  have hgd:=hgetd dN (by omega) hdn hlta (fun K hK=>h1 [] K hK);obtain⟨z',hz'⟩: ∃z',z'=z.map fun v=>AV.d (.v v):=⟨_,rfl⟩;have hzl:z'.length=kk:=by rw[hz',List.length_map];exact c3
  refine wC (is:=[(ia,some d),(dN,none)]) (V:=[(.ptr σ.length 0,σ++[.var z']),(.undef,σ++[.var (cellsOf av)])]) hm hok hmn hch (E8 hch) ⟨fun k hk=> ?_⟩ ⟨rfl,fun k hk=> ?_⟩ h2
  ·have: ∃τ,tS σ [(.ptr σ.length 0,σ++[.var z']),(.undef,σ++[.var (cellsOf av)])] k=σ++τ:=by
    have hk:k=0\/k=1\/k=2:=by simp at hk;omega
    rcases hk with rfl|rfl|rfl
    ·exact⟨[],(List.append_nil σ).symm⟩
    ·exact⟨_,rfl⟩
    ·exact⟨_,rfl⟩
   obtain⟨τ,hτ⟩:=this;obtain⟨xs,g1,g2,g3⟩:=Xo (σ:=σ) hmn hdn (h1 τ);refine⟨xs,g1,fun i r hr=> ?_,fun i o hi ho hn _=>by
    show Local P ops o ⟨N,_,tS σ _ k,mv⟩ (xs i)
    rw[hτ];exact g3 i o hi ho (get2n hn).1 (get2n hn).2⟩
   rcases get2 hr with⟨rfl,rfl⟩|⟨e1,rfl,rfl⟩
   ·rw[g2,if_pos rfl]
   ·rw[g2,if_neg e1,if_pos rfl]
  ·have hk:k=0\/k=1:=by simp at hk;omega
   rcases hk with rfl|rfl
   ·refine⟨oa,hoa,?_⟩;unfold Hr;simp only[hop];rw[hz];exact⟨rfl,by rw[hz'];rfl⟩
   ·refine⟨os,hos,?_⟩;unfold Hr;simp only[hops];show arg true ⟨N,t1,σ++[.var z'],mv⟩ (.tmp d) _
    unfold arg;have hvl:val ⟨N,t1,σ++[.var z'],mv⟩ (.tmp d)=some (.ptr σ.length 0):=hgd;rw[hvl];exact hav _ _ (store_own hty c1 c2 hzl)
 ·have hle:dN=ops.length:=by
   rcases hst with h|h
   ·simpa using h
   ·rw[Bool.and_eq_true] at h;exact absurd (by simpa using h.1) hlt
  have hIs:Xq ops m ia dN=[(ia,some d)]:=by unfold Xq;rw[if_neg (by simpa using hlt),hda]
  rw[hIs] at hch;obtain⟨oa',hoa',_,_,hlta,_⟩:=bG hch (k:=0) (by simp);have hlta:ia<m:=hlta;have hon:ops[dN]? =none:=by rw[hle];simp
  rw[jc,hon] at h2;simp only at h2;have hdn: ∀o,ops[dN]? =some o->o.dst=none:=fun o ho=>by rw[hon] at ho;cases ho
  refine wC (is:=[(ia,some d)]) (V:=[(.ptr σ.length 0,σ++[.var (z.map fun v=> .d (.v v))])]) hm hok hmn hch (E8 hch) ⟨fun k hk=> ?_⟩ ⟨rfl,fun k hk=> ?_⟩ h2
  ·have: ∃τ,tS σ [(.ptr σ.length 0,σ++[.var (z.map fun v=> .d (.v v))])] k=σ++τ:=by
    have hk:k=0\/k=1:=by simp at hk;omega
    rcases hk with rfl|rfl
    ·exact⟨[],(List.append_nil σ).symm⟩
    ·exact⟨_,rfl⟩
   obtain⟨τ,hτ⟩:=this;obtain⟨xs,g1,g2,g3⟩:=Xo (σ:=σ) hmn hdn (h1 τ);refine⟨xs,g1,fun i r hr=> ?_,fun i o hi ho hn _=>by
    show Local P ops o ⟨N,_,tS σ _ k,mv⟩ (xs i)
    rw[hτ];exact g3 i o hi ho (get1n hn) (by omega)⟩
   obtain⟨rfl,rfl⟩:=get1 hr;rw[g2,if_pos rfl]
  ·obtain rfl:k=0:=by simp at hk;omega
   refine⟨oa,hoa,?_⟩;unfold Hr;simp only[hop];rw[hz];exact⟨rfl,rfl⟩
theorem jm{P:Program}{Q:Exit->St->Prop}{N:Nat}{t:List (Nat×AV)}{σ:List aC}{mv:List Nat}{id:Nat}{ops:List Oper}(m ia dN:Nat)(hm:P.follows .mixedOrders=true)(hok:(dW ops m&&Nat.ble m ops.length&&ownOk ops m ia dN)=true){t1:List (Nat×AV)}
  (h1: ∀(τ:List aC) (K:St->Prop),(∀σ' mv',K ⟨N,t1,σ',mv'⟩)->kN P ops ia dN (.ptr σ.length 0) (ops.take m) 0 ⟨N,t,σ++τ,mv⟩ K)
  (h2: ∀K:St->Prop,(∀s',Q .normal s'->K s')->ownA P ops ia dN ⟨N,t1,σ,mv⟩ fun c=>bI P false ops (ops.drop m) ⟨N,t1,σ++[.var c],mv⟩ K):dY P (.region id ops.toArray true) Q ⟨N,t,σ,mv⟩:=
 awp_own m ia dN hm hok h1 (h2 _ fun s' h=>h)
def RestO(P:Program)(all:List Oper)(ia dN:Nat)(r:AV)(os:List Oper)(i:Nat)(K:St->Prop)(s:St):Prop:=kN P all ia dN r os i s K
theorem evalO_nil(P:Program)(all:List Oper)(ia dN:Nat)(r:AV)(i:Nat)(s:St)(K:St->Prop):kN P all ia dN r [] i s K=K s:=rfl
theorem evalO_cons(P:Program)(all os:List Oper)(ia dN:Nat)(r:AV)(i:Nat)(o:Oper)(s:St)(K:St->Prop):kN P all ia dN r (o::os) i s K=if Nat.beq i ia then RestO P all ia dN r os (i+1) K (s.put o.dst r)
  else if Nat.beq i dN then kN P all ia dN r os (i+1) s K
  else jA all s o fun gd g=>UK P true gd g o s (RestO P all ia dN r os (i+1) K):=rfl
theorem Zy(P:Program)(all os:List Oper)(ia dN:Nat)(r:AV)(i:Nat)(K:St->Prop)(N:Nat)(t:List (Nat×AV))(σ:List aC)(mv:List Nat):RestO P all ia dN r os i K ⟨N,t,σ,mv⟩=kN P all ia dN r os i ⟨N,t,σ,mv⟩ K:=rfl
attribute [go_sem ↓] evalO_nil evalO_cons Zy acA ownA
attribute [go_sem] Zy
end Go.aU
namespace Go.aU
abbrev I(n:Int):D:= .v (.int .i64 n)
abbrev B(b:Bool):D:= .v (.bool b)
theorem aA{n:Int}(h1: -9223372036854775808<=n)(h2:n<=9223372036854775807):IntKind.i64.wrap n=n:=by
 rw[IntKind.wrap_i64];omega
theorem Rj{a b:Int}(h:0<=a):a.tdiv b=a/b:=Int.tdiv_eq_ediv_of_nonneg h
theorem sU{a b:Int}(h:0<=a):a.tmod b=a%b:=Int.tmod_eq_emod_of_nonneg h
theorem wrap_succ{i:Nat}(h:i<1000000000):IntKind.i64.wrap ((i:Int)+1)=((i+1:Nat):Int):=by
 rw[IntKind.wrap_i64];omega
theorem aZ{i:Nat}(h:i<1000000000):IntKind.i64.wrap ((i:Int)-1)=(i:Int)-1:=by
 rw[IntKind.wrap_i64];omega
def idxFrom{α:Type}(p:α->Bool):List α->Nat->Int
 |[],_=> -1
 |x::xs,i=>if p x then i else idxFrom p xs (i+1)
theorem fE{α:Type}{n i:Nat}{f:Nat->α}(h:i<n):(lst n f).drop i=f i::(lst n f).drop (i+1):=by
 rw[List.drop_eq_getElem_cons (by rw[bP];exact h)];simp[lst]
theorem fF{α:Type}{n i:Nat}{f:Nat->α}(h:n<=i):(lst n f).drop i=[]:=by
 rw[List.drop_eq_nil_iff,bP];omega
theorem lC{α:Type}(p:α->Bool): ∀(l:List α) (i:Nat),decide (0<=idxFrom p l i)=l.any p
 |[],i=>by simp[idxFrom]
 |x::xs,i=>by
  rw[idxFrom,List.any_cons];by_cases h:p x=true
  ·simp[h]
  ·simp only[h];simpa using lC p xs (i+1)
theorem o7{α:Type}(p:α->Bool): ∀(l:List α) (i:Nat),(idxFrom p l i= -1/\∀x∈l,p x=false)\/∃q,q<l.length/\idxFrom p l i=((i+q:Nat):Int)/\∃x,l[q]? =some x/\p x=true/\∀r y,r<q->l[r]? =some y->p y=false
 |[],i=> .inl ⟨rfl,by simp⟩
 |x::xs,i=>by
  rw[idxFrom];by_cases h:p x=true
  ·refine .inr ⟨0,by simp,by simp[h],x,by simp,h,fun r y hr=>by omega⟩
  ·rw[if_neg h];have h:p x=false:=by simpa using h
   rcases o7 p xs (i+1) with⟨h1,h2⟩|⟨q,h1,h2,y,h3,h4,h5⟩
   ·exact .inl ⟨h1,by simpa[h] using h2⟩
   ·refine .inr ⟨q+1,by simpa using h1,by rw[h2];congr 1;omega,y,by simpa using h3,h4,fun r z hr hz=> ?_⟩;cases r with
    |zero=>simp at hz;subst hz;exact h
    |succ r=>exact h5 r z (by omega) (by simpa using hz)
mutual
def o9(b sz n':Nat)(row:Nat->List D):AV->AV
 | .iff g x=> .iff g (o9 b sz n' row x)
 | .agg cs=> .agg (KR b sz n' row cs)
 | .eX cs=> .eX (KR b sz n' row cs)
 | .ms b' sz' lo n=>if Nat.beq b' b then(if sz'=sz/\lo+n<=n' then .d (.sl none sz n fun i=>row (lo+i)) else .undef) else .ms b' sz' lo n
 | .clo fn fs cs=> .clo fn (KR b sz n' row fs) (KR b sz n' row cs)
 | .ptr b' o=>if Nat.beq b' b then .undef else .ptr b' o
 | .pe b' s i k=>if Nat.beq b' b then .undef else .pe b' s i k
 | .mc b' s l n c=>if Nat.beq b' b then .undef else .mc b' s l n c
 | .mp b'=>if Nat.beq b' b then .undef else .mp b'
 | .xX b'=>if Nat.beq b' b then .undef else .xX b'
 |x=>x
def KR(b sz n':Nat)(row:Nat->List D):List AV->List AV
 |[]=>[]
 |x::xs=>o9 b sz n' row x::KR b sz n' row xs
end
theorem iL(b sz n':Nat)(row:Nat->List D): ∀cs,(KR b sz n' row cs).length=cs.length
 |[]=>rfl
 |x::xs=>by simp[KR,iL b sz n' row xs]
theorem vN(b sz n':Nat)(row:Nat->List D): ∀(cs:List AV) (k:Nat),(KR b sz n' row cs).getD k .undef=o9 b sz n' row (cs.getD k .undef)
 |[],k=>by simp[KR,o9]
 |x::xs,0=>by simp[KR]
 |x::xs,k+1=>by
  have:=vN b sz n' row xs k;simpa[KR] using this
theorem dG{j:Js}{b:Nat}{c:Nat}(h:some c∈j.set b none):some c∈j:=by
 obtain⟨i,hi,he⟩:=List.mem_iff_getElem.1 h;rw[List.getElem_set] at he;split at he
 ·cases he
 ·rw[←he];exact List.getElem_mem _
theorem RD.unset{w:World}{j:Js}{b:Nat}{d:D}{v:Value}(h:RD w j d v):RD w (j.set b none) d v:=by
 induction h with
 |v x=>exact .v x
 |sl a c val hcap hle ha hlt hb hlen hcell hrel ih=>exact .sl a c val hcap hle ha hlt (fun hm=>hb (dG hm)) hlen hcell ih
 |zero p c hcap hp=>exact .zero p c hcap hp
section
variable {w : World} {j : Js} {σ : List aC} {b sz n' : Nat} {row : Nat -> List D}
theorem fV{b':Nat}{o:Option Nat}(h:j[b']? =some o)(hne:b'≠b):(j.set b none)[b']? =some o:=by
 rw[List.getElem?_set];simp[Ne.symm hne,h]
theorem R.uN(hS:aS w j σ)(hb:σ[b]? =some (.arr sz n' row)){x:AV}{v:Value}(h:R w j x v):R w (j.set b none) (o9 b sz n' row x) v:=by
 induction h with
 |undef v=>exact .undef v
 |iff h h0 ih=>simp only[o9];exact .iff ih h0
 |d h=>simp only[o9];exact .d h.unset
 |agg vs hs h ih=>
  simp only[o9];exact .agg vs (by rw[iL];exact hs) fun k hk=>by rw[vN];exact ih k (by rwa [iL] at hk)
 |eX vs hs h ih=>
  simp only[o9];exact .eX vs (by rw[iL];exact hs) fun k hk=>by rw[vN];exact ih k (by rwa [iL] at hk)
 |clo ff cc h1 h2 h3 h4 ih3 ih4=>
  simp only[o9];exact .clo ff cc (by rw[iL];exact h1) (by rw[iL];exact h2) (fun k hk=>by rw[vN];exact ih3 k (by rwa [iL] at hk)) (fun k hk=>by rw[vN];exact ih4 k (by rwa [iL] at hk))
 | @ptr b' off cb h=>
  simp only[o9];by_cases e:b'=b
  ·simp[e];exact .undef _
  ·simp[e];exact .ptr (fV h e)
 | @pe b' s i k cb h=>
  simp only[o9];by_cases e:b'=b
  ·simp[e];exact .undef _
  ·simp[e];exact .pe (fV h e)
 | @mp b' cb h=>
  simp only[o9];by_cases e:b'=b
  ·simp[e];exact .undef _
  ·simp[e];exact .mp (fV h e)
 | @xX b' cb h=>
  simp only[o9];by_cases e:b'=b
  ·simp[e];exact .undef _
  ·simp[e];exact .xX (fV h e)
 |fm c cl es hlt hbj xB hd=>simp only[o9];exact .fm c cl es hlt (fun hm=>hbj (dG hm)) xB ⟨hd.stamped,hd.keys,hd.kind,fun e he k hk=>(hd.rel e he k hk).unset⟩
 |el a val h1 hlt hbj hcell hrel=>simp only[o9];exact .el a val h1 hlt (fun hm=>hbj (dG hm)) hcell fun k hk=>(hrel k hk).unset
 | @ms b' sz' lo n cb c e m h hs hn hm=>
  simp only[o9];by_cases e':b'=b
  ·subst e';simp only[Nat.beq_refl,if_true];split
   ·rename_i hc;obtain⟨rfl,hle⟩:=hc;obtain⟨o,ho,hB⟩:=hS.blk b' _ hb;rw[h] at ho;cases ho;obtain⟨C,e2,⟨f,hC,vI⟩,hcs,hrel⟩:=hB;have hfz:=Or.imp_left And.left vI;refine .d (.sl ⟨cb,lo*sz',none⟩ c (fun i k=>C.getD ((lo+i)*sz'+k) Go.undef) (.inl rfl) hn rfl (hS.lt b' cb h) (fun hmem=> ?_) (fun i hi=>(hrel (lo+i) (by omega)).1) (fun i hi k hk=> ?_) (fun i hi k hk=> ?_))
    ·obtain⟨i,hi,he⟩:=List.mem_iff_getElem.1 hmem;rw[List.getElem_set] at he;split at he
     ·cases he
     ·rename_i hne;have:j[i]? =some (some cb):=by rw[List.getElem?_eq_getElem (by simpa using hi)];rw[he]
      exact hne (hS.inj _ _ _ h this)
    ·have hbound:(lo+i)*sz'+sz'<=n'*sz':=by
      have:(lo+i+1)*sz'<=n'*sz':=Nat.mul_le_mul_right _ (by omega);rwa [Nat.succ_mul] at this
     have e3:lo*sz'+i*sz'+k=(lo+i)*sz'+k:=by rw[Nat.add_mul]
     rw[cell_of hC,e3];simp[Array.getD_eq_getD_getElem?,show(lo+i)*sz'+k<C.size by omega]
    ·exact((hrel (lo+i) (by omega)).2 k hk).unset
   ·exact .undef _
  ·simp[e'];exact .ms c e m (fV h e') hs hn hm
 | @ms0 b' sz' p h=>
  simp only[o9];by_cases e':b'=b
  ·subst e';simp only[Nat.beq_refl,if_true];split
   ·rename_i hc;obtain⟨rfl,hle⟩:=hc;exact .d (.zero p 0 (.inl rfl) fun _=>rfl)
   ·exact .undef _
  ·simp[e'];exact .ms0 p (fV h e')
 | @mc b' sz' lo n c v h q hv ih=>
  simp only[o9];by_cases e':b'=b
  ·simp[e'];exact .undef _
  ·simp only[o9,xO e',Bool.false_eq_true,if_false] at ih⊢;exact .mc ih q hv
 |op h h0 ih=>simp only[o9];exact .op (fun hb=>by have:=ih hb;simpa only[o9] using this) h0
 | @sN b' sz' lo cb p e m h hs hlo hm=>
  simp only[o9];by_cases e':b'=b
  ·subst e';simp only[Nat.beq_refl,if_true];split
   ·rename_i hc;obtain⟨rfl,hle⟩:=hc;exact .d (.zero p 0 (.inl rfl) fun _=>rfl)
   ·exact .undef _
  ·simp[e'];exact .sN p e m (fV h e') hs hlo hm
def pV(b sz n':Nat)(row:Nat->List D)(x:AV):AV:=if x.avoids [b] then x else o9 b sz n' row x
theorem R.unset{x:AV}{v:Value}(h:R w j x v)(ha:x.avoids [b]=true):R w (j.set b none) x v:=by
 induction h with
 |undef v=>exact .undef v
 |iff h h0 ih=>exact .iff (fun hb=>ih hb (by simpa[AV.avoids,hb] using ha)) h0
 |d h=>exact .d h.unset
 |agg vs hs h ih=>exact .agg vs hs fun k hk=>ih k hk (gB (by simpa[AV.avoids] using ha) hk)
 |eX vs hs h ih=>exact .eX vs hs fun k hk=>ih k hk (gB (by simpa[AV.avoids] using ha) hk)
 |ptr h=>exact .ptr (fV h (by simpa[AV.avoids] using ha))
 |pe h=>exact .pe (fV h (by simpa[AV.avoids] using ha))
 |el a val hs hlt hb hcell hrel=>exact .el a val hs hlt (fun hm=>hb (dG hm)) hcell fun k hk=>(hrel k hk).unset
 |ms c e m h hs hn hm=>exact .ms c e m (fV h (by simpa[AV.avoids] using ha)) hs hn hm
 |ms0 p h=>exact .ms0 p (fV h (by simpa[AV.avoids] using ha))
 |mc h q hv ih=>exact .mc (ih (by simpa[AV.avoids] using ha)) q hv
 |op h h0 ih=>exact .op (fun hb=>ih hb rfl) h0
 |sN p e m h hs hlo hm=>exact .sN p e m (fV h (by simpa[AV.avoids] using ha)) hs hlo hm
 |mp h=>exact .mp (fV h (by simpa[AV.avoids] using ha))
 |xX h=>exact .xX (fV h (by simpa[AV.avoids] using ha))
 |fm c cl es hlt hb xB hd=>exact .fm c cl es hlt (fun hm=>hb (dG hm)) xB ⟨hd.stamped,hd.keys,hd.kind,fun e he k hk=>(hd.rel e he k hk).unset⟩
 | @clo fn fs cs ff cc h1 h2 h3 h4 ih3 ih4=>
  have hb:dK [b] fs=true/\dK [b] cs=true:=by simpa[AV.avoids] using ha
  exact .clo ff cc h1 h2 (fun k hk=>ih3 k hk (gB hb.1 hk)) (fun k hk=>ih4 k hk (gB hb.2 hk))
theorem R.pV(hS:aS w j σ)(hb:σ[b]? =some (.arr sz n' row)){x:AV}{v:Value}(h:R w j x v):R w (j.set b none) (pV b sz n' row x) v:=by
 unfold aU.pV;split
 ·rename_i ha;exact h.unset ha
 ·exact h.uN hS hb
def ED(b sz n':Nat)(row:Nat->List D):List (Nat×AV)->List (Nat×AV)
 |[]=>[]
 |(k,v)::t=>(k,pV b sz n' row v)::ED b sz n' row t
theorem O3: ∀{t:List (Nat×AV)} {k:Nat} {av:AV},get (ED b sz n' row t) k=some av->∃x,get t k=some x/\av=pV b sz n' row x
 |[],k,av,h=>by simp[ED,get] at h
 |(q,u)::t,k,av,h=>by
  simp only[ED,get] at h⊢;by_cases hq:q=k
  ·simp[hq] at h⊢;exact h.symm
  ·simp only[xO hq,Bool.false_eq_true,if_false] at h⊢;exact O3 h
theorem Yk: ∀{t:List (Nat×AV)} {k:Nat} {av:AV},(k,av)∈ED b sz n' row t->∃x,(k,x)∈t/\av=pV b sz n' row x
 |[],k,av,h=>by simp[ED] at h
 |(q,u)::t,k,av,h=>by
  simp only[ED] at h;rcases List.mem_cons.1 h with h|h
  ·cases h;exact⟨u,by simp,rfl⟩
  ·obtain⟨x,h1,h2⟩:=Yk h;exact⟨x,List.mem_cons_of_mem _ h1,h2⟩
def KT(b sz n':Nat)(row:Nat->List D):aC->aC
 | .var cs=> .var (cs.map (pV b sz n' row))
 | .lp L st pd=> .lp { L with t:=ED b sz n' row L.t } st pd
 |x=>x
theorem ji.unset{es:Array MapEntry}{cl:Nat}{d:Bool}{ks:List Key}{f:Key->AV}(h:ji w j es cl d ks f):ji w (j.set b none) es cl d ks f:=
 ⟨h.stamped,h.keys,h.kind,h.free,fun e hm k hk=>(h.rel e hm k hk).unset (zV _ _ (h.free k))⟩
theorem sJ.unset{mb:Nat}{es:Array MapEntry}{cl:Nat}{seen:Array Nat}{left:List Key}{cur:Option Key}{f:Key->AV}(h:sJ w j mb es cl seen left cur f):sJ w (j.set b none) mb es cl seen left cur f:=
 ⟨h.lt,fun hm=>h.own (dG hm),h.heap,h.stamped,h.keys,h.cur,h.free,fun e hm k hk=>(h.rel e hm k hk).unset (zV _ _ (h.free k))⟩
theorem RB.uN(hS:aS w j σ)(hb:σ[b]? =some (.arr sz n' row)){x:aC}{o:Option Nat}(h:RB w j x o):RB w (j.set b none) (KT b sz n' row x) o:=by
 cases x with
 |dead=>simp[KT,RB]
 |loc c=>
  obtain⟨h1,h2,h3,m,h4⟩:=h;exact⟨h1,h2,fun hm=>h3 (dG hm),m,h4⟩
 |tab c vs=>
  obtain⟨h1,h2,h3,e,h4,h5⟩:=h;exact⟨h1,h2,fun hm=>h3 (dG hm),e,h4,h5⟩
 |arr sz0 n0 row0=>
  cases o with
  |none=>exact h
  |some cb=>
   obtain⟨C,e,h1,h2,h3⟩:=h;exact⟨C,e,h1,h2,fun i hi=>⟨(h3 i hi).1,fun k hk=>((h3 i hi).2 k hk).unset⟩⟩
 |lp L st pd=>
  cases o with
  |none=>exact h
  |some cb=>
   obtain⟨r,h1,h2,h3,h4⟩:=h;refine⟨r,h1,h2,h3,fun k av hk=> ?_⟩;obtain⟨x,hx,rfl⟩:=Yk hk;exact⟨(h4 k x hx).1,(h4 k x hx).2.pV hS hb⟩
 |mp d ks f=>
  cases o with
  |none=>exact h
  |some cb=>
   obtain⟨es,cl,h1,h2⟩:=h;exact⟨es,cl,h1,h2.unset⟩
 |QH d ks f κ q=>
  cases o with
  |none=>exact h
  |some cb=>
   obtain⟨es,cl,h1,h2,hx⟩:=h;exact⟨es,cl,h1,h2.unset,hx⟩
 |it left cur f=>
  cases o with
  |none=>exact h
  |some cb=>
   obtain⟨mb,es,cl,seen,h1,h2⟩:=h;exact⟨mb,es,cl,seen,h1,h2.unset⟩
 |var cs=>
  cases o with
  |none=>exact h
  |some cb=>
   obtain⟨C,e,h1,h2,h3⟩:=h;refine⟨C,e,h1,by simpa using h2,fun k hk=> ?_⟩;simp only[List.length_map] at hk;have e1:(cs.map (pV b sz n' row)).getD k .undef=pV b sz n' row (cs.getD k .undef):=by
    simp[List.getD_eq_getElem?_getD,hk]
   rw[e1];exact(h3 k hk).pV hS hb
def Yj(b sz n':Nat)(row:Nat->List D)(σ:List aC):List aC:=(σ.map (KT b sz n' row)).set b .dead
theorem aS.uN(hS:aS w j σ)(hb:σ[b]? =some (.arr sz n' row)):aS w (j.set b none) (Yj b sz n' row σ) where
 len:=by simp[Yj,hS.len]
 lt c cb h:=by
  rw[List.getElem?_set] at h;split at h
  ·split at h<;>simp at h
  ·exact hS.lt c cb h
 inj c c' cb h h':=by
  rw[List.getElem?_set] at h h';split at h
  ·split at h<;>simp at h
  ·split at h'
   ·split at h'<;>simp at h'
   ·exact hS.inj c c' cb h h'
 blk c x h:=by
  unfold Yj at h;rw[List.getElem?_set] at h;by_cases hc:b=c
  ·subst hc;simp only[if_true,List.length_map] at h;split at h
   ·rename_i hlt;simp at h;subst h;exact⟨none,by rw[List.getElem?_set];simp[hS.len,hlt],trivial⟩
   ·simp at h
  ·simp only[hc,if_false,List.getElem?_map,Option.map_eq_some_iff] at h;obtain⟨y,hy,rfl⟩:=h;obtain⟨o,ho,hB⟩:=hS.blk c y hy;exact⟨o,by rw[List.getElem?_set];simp[hc,ho],hB.uN hS hb⟩
end
theorem dM{P:Program}{c:Code}{Q:Exit->St->Prop}{N:Nat}{t t':List (Nat×AV)}{σ σ':List aC}{mv:List Nat}(b:Nat){sz n':Nat}{row:Nat->List D}(hb:σ[b]? =some (.arr sz n' row))(ht:ED b sz n' row t=t')(hσ:Yj b sz n' row σ=σ')
  (h:dY P c Q ⟨N,t',σ',b::mv⟩):dY P c Q ⟨N,t,σ,mv⟩:=by
 refine iW (s':=⟨N,t',σ',b::mv⟩) ?_ h;intro j0 j a w hr;subst ht hσ;have he:Ev j w (j.set b none) w:=⟨Nat.le_refl _,fun _ _ _=>rfl,fun c _ hm=>dG hm,fun _ _=>rfl,fun _ _=>rfl,rfl,rfl,rfl,fun _ r h=>⟨r,h⟩⟩;refine⟨j.set b none,⟨hr.defers.mono he,hr.jw,hr.size,fun k av hk=> ?_,hr.cZ.uN hb,by simpa using hr.len0,fun c hc hn=> ?_⟩,he⟩
 ·obtain⟨x,hx,rfl⟩:=O3 hk;exact⟨(hr.tmp k x hx).1,(hr.tmp k x hx).2.pV hr.cZ hb⟩
 ·simp at hn;rw[List.getElem?_set];rw[if_neg (fun e=>hn.1 e.symm)];exact hr.ag c hc hn.2
theorem frzM_id{b sz n':Nat}{row:Nat->List D} : ∀{t:List (Nat×AV)},(∀k av,(k,av)∈t->av.avoids [b]=true)->ED b sz n' row t=t
 |[],_=>rfl
 |(q,u)::t,h=>by
  simp only[ED];rw[frzM_id fun k av hk=>h k av (List.mem_cons_of_mem _ hk)];simp[pV,h q u (by simp)]
theorem LK: ∀(t:List (Nat×AV)) (k:Nat),(aU.del t k).length<=t.length
 |[],k=>by simp[aU.del]
 |(q,u)::t,k=>by
  simp only[aU.del];split
  ·have:=LK t k;simp;omega
  ·have:=LK t k;simp;omega
theorem Ro(X:List Nat): ∀t:List (Nat×AV),(cO X t).length<=t.length
 |[]=>by simp[cO]
 |(q,u)::t=>by
  have:=Ro X t;simp only[cO];split
  ·simp;omega
  ·have:=LK (cO X t) q;simp;omega
theorem BM{X:List Nat} : ∀{t:List (Nat×AV)},cO X t=t->∀k av,(k,av)∈t->av.avoids X=true
 |[],_,_,_,h=>by simp at h
 |(q,u)::t,h,k,av,hm=>by
  simp only[cO] at h;split at h
  ·rename_i hu;rcases List.mem_cons.1 hm with e|e
   ·cases e;exact hu
   ·exact BM (List.cons.inj h).2 k av e
  ·have h1:=congrArg List.length h;have h2:=LK (cO X t) q;have h3:=Ro X t;simp at h1;omega
theorem sF.uN{σ:List aC}(h:sF σ)(k sz n':Nat)(row:Nat->List D):σ.map (KT (σ.length+k) sz n' row)=σ:=by
 have hs:=h.one k;refine(List.map_congr_left fun x hx=> ?_).trans (List.map_id _);have hx':bW [σ.length+k] x=x:=by
  obtain⟨i,hi,he⟩:=List.mem_iff_getElem.1 hx;have:=congrArg (fun l=>l[i]?) hs;simp[hi] at this;rw[←he];exact this
 cases x with
 |var cs=>
  simp only[KT,id,aC.var.injEq];simp only[bW,aC.var.injEq] at hx';refine(List.map_congr_left fun c hc=> ?_).trans (List.map_id _);have:c.avoids [σ.length+k]=true:=by
   obtain⟨i,hi,he⟩:=List.mem_iff_getElem.1 hc;have:=congrArg (fun l=>l[i]?) hx';simp[hi] at this;rw[←he];by_cases ha:(cs[i]).avoids [σ.length+k]=true
   ·exact ha
   ·have:=this (by simpa using ha);rw[←this];rfl
  simp[pV,this]
 |lp L st pd=>
  simp only[bW,aC.lp.injEq] at hx';have h2:cO [σ.length+k] L.t=L.t:=congrArg jo.t hx'.1;simp only[KT,id];rw[frzM_id (BM h2)]
 |arr a c d=>rfl
 |dead=>rfl
 |loc c=>rfl
 |tab c vs=>rfl
 |mp d ks f=>rfl
 |QH d ks f κ q=>rfl
 |it left cur f=>rfl
theorem sF.yL{σ:List aC}(h:sF σ)(sz n':Nat)(row:Nat->List D):σ.map (KT σ.length sz n' row)=σ:=h.uN 0 sz n' row
theorem dn{P:Program}{c:Code}{Q:Exit->St->Prop}{N:Nat}{t t':List (Nat×AV)}{σ:List aC}{mv:List Nat}(k sz:Nat)(row:Nat->List D)(hk:get t k=some (.d (.v (.slice none 0 0))))(ht:put t k (.ms σ.length sz 0 0)=t')
  (h:dY P c Q ⟨N,t',σ++[.arr sz 0 row],mv⟩):dY P c Q ⟨N,t,σ,mv⟩:=by
 refine iW (s':=⟨N,t',σ++[.arr sz 0 row],mv⟩) ?_ h;intro j0 j a w hr;subst ht;obtain⟨h1,h2,h3⟩:=hr.cZ.H8 (sz:=sz) (rows:=row) (p:=none);refine⟨j++[none],⟨hr.defers.mono h3,hr.jw,hr.size,fun q av hq=> ?_,h1,by have:=hr.len0;simp;omega,fun c hc hn=> ?_⟩,h3⟩
 ·simp only at hq;rw[get_put] at hq;split at hq
  ·rename_i e;subst e;simp only[Option.some.injEq] at hq;subst hq;have:=hr.tmp k _ hk;refine⟨this.1,?_⟩;have hv:=kD this.2;rw[hv];exact h2
  ·exact⟨(hr.tmp q av hq).1,(hr.tmp q av hq).2.kM h3 hr.cZ.lt (bZ _ _)⟩
 ·have:=hr.len0;rw[List.getElem?_append_left (by omega)];exact hr.ag c hc hn
theorem Tz{P:Program}{c:Code}{Q:Exit->St->Prop}{N:Nat}{t:List (Nat×AV)}{σ σ':List aC}{mv:List Nat}(v sz:Nat)(row:Nat->List D)(hv:σ[v]? =some (.var [.d (.v (.slice none 0 0))]))(hσ:σ.set v (.var [.ms σ.length sz 0 0])++[.arr sz 0 row]=σ')
  (h:dY P c Q ⟨N,t,σ',mv⟩):dY P c Q ⟨N,t,σ,mv⟩:=by
 refine iW (s':=⟨N,t,σ',mv⟩) ?_ h;intro j0 j a w hr;subst hσ;obtain⟨h1,h2,h3⟩:=hr.cZ.H8 (sz:=sz) (rows:=row) (p:=none);have hvl:v<σ.length:=(List.getElem?_eq_some_iff.1 hv).1;refine⟨j++[none],⟨hr.defers.mono h3,hr.jw,hr.size,fun q av hq=>⟨(hr.tmp q av hq).1,(hr.tmp q av hq).2.kM h3 hr.cZ.lt (bZ _ _)⟩,⟨by simp[hr.cZ.len],h1.lt,h1.inj,fun b x hx=> ?_⟩,by have:=hr.len0;simp;omega,fun c hc hn=> ?_⟩,h3⟩
 ·rw[←List.set_append_left _ _ hvl,List.getElem?_set] at hx;split at hx
  ·rename_i e;subst e;split at hx
   ·simp only[Option.some.injEq] at hx;subst hx;obtain⟨o,ho,hB⟩:=h1.blk v (.var [.d (.v (.slice none 0 0))]) (by rw[List.getElem?_append_left hvl];exact hv);refine⟨o,ho,?_⟩;cases o with
    |none=>exact hB
    |some cb=>
     obtain⟨C,e,g1,g2,g3⟩:=hB;refine⟨C,e,g1,g2,fun k hk=> ?_⟩;have hk0:k=0:=by simpa using hk
     subst hk0;have h0:=kD (show R w (j++[none]) (.d (.v (.slice none 0 0))) (C.getD 0 Go.undef) from g3 0 (by simp));simp only[List.getD_cons_zero];rw[h0];exact h2
   ·simp at hx
  ·exact h1.blk b x hx
 ·have:=hr.len0;rw[List.getElem?_append_left (by omega)];exact hr.ag c hc hn
theorem CS.Xu{P:Program}{f:FuncId}{fn:Func}{c:Code}{args:List AV}{σ:List aC}{Q:AV->List aC->List Nat->Prop}(hen:dO P f=true)(hf:P.funcs[f]? =some fn)(hb:fn.body=some c)(hN:args.length<=fn.ntmps)
  (h:sF σ->dY P c (BN P fn Q) (St.init fn.ntmps args σ)):CS P f args σ Q:=
 ⟨hen,fun j w vs hs hr=>(CS.Lr hen hf hb hN (h hs.wf)).2 j w vs hs hr⟩
attribute [go_sem ↓] BN
def ZL(n:Nat):aC->Prop
 | .var cs=>gK n cs
 | .arr _ _ _=>True
 | .dead=>True
 | .loc _=>True
 | .tab _ _=>True
 | .mp _ _ _=>True
 | .QH _ _ _ _ _=>True
 | .it _ _ _=>True
 | .lp L _ _=> ∀k av,(k,av)∈L.t->av.under n
def kE(n:Nat):List aC->List aC->Prop
 |[],[]=>True
 |x::xs,y::ys=>(x=y\/ZL n y)/\kE n xs ys
 |_,_=>False
theorem ZK{n:Nat}{y:aC}(h:ZL n y):AP n y:=by
 cases y with
 |var cs=>exact fun k hk=>lY h hk
 |arr a b c=>trivial
 |dead=>trivial
 |loc c=>trivial
 |tab c vs=>trivial
 |mp d ks f=>trivial
 |QH d ks f κ q=>trivial
 |it left cur f=>trivial
 |lp L st pd=>exact h
theorem qA{n:Nat} : ∀{xs ys:List aC},kE n xs ys->ys.length=xs.length/\∀(k:Nat) y,ys[k]? =some y->xs[k]? =some y\/AP n y
 |[],[],_=>⟨rfl,by simp⟩
 |x::xs,y::ys,h=>by
  obtain⟨h1,h2⟩:=qA h.2;refine⟨by simp[h1],fun k z hz=> ?_⟩;cases k with
  |zero=>
   simp only[List.getElem?_cons_zero,Option.some.injEq] at hz⊢;subst hz;rcases h.1 with e|e
   ·exact .inl e
   ·exact .inr (ZK e)
  |succ k=>simpa using h2 k z (by simpa using hz)
 |[],_::_,h=>h.elim
 |_::_,[],h=>h.elim
theorem au{σ xs ys:List aC}(h:kE (σ.length+xs.length) xs ys):Leaves (σ++xs) (σ++ys):=by
 obtain⟨h1,h2⟩:=qA h;refine⟨by simp[h1],fun b x hx=> ?_⟩;rw[List.getElem?_append] at hx⊢;split at hx
 ·rename_i hb;rw[if_pos hb];exact .inl hx
 ·rename_i hb;rw[if_neg hb];rcases h2 _ _ hx with e|e
  ·exact .inl e
  ·exact .inr (.inl (by simpa using e))
theorem aJ(n:Nat): ∀xs:List aC,kE n xs xs=True
 |[]=>rfl
 |x::xs=>by simp[kE,aJ n xs]
attribute [go_sem] kE ZL aJ
theorem MJ{N:Nat}{t:List (Nat×AV)}{σ σ':List aC}{mv:List Nat}(b n':Nat){sz n:Nat}{row:Nat->List D}(row':Nat->List D)(hb:σ[b]? =some (.arr sz n row))(hn:n'<=n)(hr: ∀i,i<n'->row i=row' i)(hσ:σ.set b (.arr sz n' row')=σ'):Sub ⟨N,t,σ,mv⟩ ⟨N,t,σ',mv⟩:=by
 intro j0 j a w h;subst hσ;refine⟨j,⟨h.defers,h.jw,h.size,h.tmp,⟨by simp[h.cZ.len],h.cZ.lt,h.cZ.inj,fun c x hx=> ?_⟩,h.len0,h.ag⟩,.refl _ _⟩;simp only at hx;rw[List.getElem?_set] at hx;split at hx
 ·rename_i e;subst e;split at hx
  ·simp only[Option.some.injEq] at hx;subst hx;obtain⟨o,ho,hB⟩:=h.cZ.blk b _ hb;refine⟨o,ho,?_⟩;cases o with
   |none=>
    have:n=0:=hB;show n'=0
    omega
   |some cb=>
    obtain⟨C,e,g1,g2,g3⟩:=hB;have hm:n'*sz<=n*sz:=Nat.mul_le_mul_right _ hn;exact⟨C,e,g1,by omega,fun i hi=>by rw[←hr i hi];exact g3 i (by omega)⟩
  ·simp at hx
 ·exact h.cZ.blk c x hx
theorem WQ{N:Nat}{t:List (Nat×AV)}{σ σ':List aC}{mv:List Nat}(b:Nat){sz n:Nat}{row:Nat->List D}(row':Nat->List D)(hb:σ[b]? =some (.arr sz n row))(hr: ∀i,i<n->row i=row' i)(hσ:σ.set b (.arr sz n row')=σ'):Sub ⟨N,t,σ,mv⟩ ⟨N,t,σ',mv⟩:=
 MJ b n row' hb (Nat.le_refl _) hr hσ
theorem xQ{P:Program}{c:Code}{Q:Exit->St->Prop}{N:Nat}{t:List (Nat×AV)}{σ σ':List aC}{mv:List Nat}(b n':Nat){sz n:Nat}{row:Nat->List D}(row':Nat->List D)(hb:σ[b]? =some (.arr sz n row))(hn:n'<=n)(hr: ∀i,i<n'->row i=row' i)(hσ:σ.set b (.arr sz n' row')=σ')
  (h:dY P c Q ⟨N,t,σ',mv⟩):dY P c Q ⟨N,t,σ,mv⟩:=iW (MJ b n' row' hb hn hr hσ) h
theorem bC{P:Program}{c:Code}{Q:Exit->St->Prop}{N:Nat}{t:List (Nat×AV)}{σ σ':List aC}{mv:List Nat}(b:Nat){sz n:Nat}{row:Nat->List D}(row':Nat->List D)(hb:σ[b]? =some (.arr sz n row))(hr: ∀i,i<n->row i=row' i)(hσ:σ.set b (.arr sz n row')=σ')
  (h:dY P c Q ⟨N,t,σ',mv⟩):dY P c Q ⟨N,t,σ,mv⟩:=iW (WQ b row' hb hr hσ) h
theorem VO(row rows:Nat->List D):aX 0 row rows=rows:=by funext i;simp[aX]
attribute [go_sem] VO rep V7 oO oneD
theorem qF{α:Type}[Inhabited α]{enc:α->List D}{l:List α}{x:α}{ds:List D}{sz:Nat}(h:ds.take sz=enc x){i:Nat}(hi:i<l.length+1):aX l.length (fun i=>enc (nth l i)) (rowsOf sz ds) i=enc (nth (l++[x]) i):=by
 unfold aX;split
 ·rename_i h1;simp[nth,List.getElem?_append_left h1]
 ·rename_i h1;have:i=l.length:=by omega
  subst this;simp[rowsOf,nth,h]
theorem Xi(sz:Nat)(ds:List D):rowsOf sz ds 0=ds.take sz:=by simp[rowsOf]
attribute [go_sem] cO bW Xi
attribute [go_sem] ED Yj KT pV o9 KR AV.avoids dK
section
variable {P : Program} {c : Code} {Q : Exit -> St -> Prop} {N : Nat} {t t' : List (Nat × AV)} {σ σ' : List aC} {mv : List Nat}
theorem awp_mc(k:Nat){b sz lo n:Nat}(hk:get t k=some (.ms b sz lo n))(h: ∀q,n<=q->dY P c Q ⟨N,put t k (.mc b sz lo n q),σ,mv⟩):dY P c Q ⟨N,t,σ,mv⟩:=by
 intro j0 j a w hr;obtain⟨hkN,hv⟩:=hr.tmp k _ hk;have key: ∃(p:Option Addr) (q:Nat),a.tmps.getD k Go.undef= .slice p n q/\n<=q:=by
  revert hv
  generalize a.tmps.getD k Go.undef=v
  intro hv;cases hv with
  |ms q e m h1 h2 h3 h4=>exact⟨_,q,rfl,h3⟩
  |ms0 p h1=>exact⟨p,0,rfl,Nat.le_refl _⟩
  |sN p e m h1 h2 h3 h4=>exact⟨p,0,rfl,Nat.le_refl _⟩
 obtain⟨p,q,hq,hn⟩:=key;refine h q hn j0 j a w ⟨hr.defers,hr.jw,hr.size,fun k' av hk'=> ?_,hr.cZ,hr.len0,hr.ag⟩;simp only at hk';rw[get_put] at hk';split at hk'
 ·rename_i e;subst e;simp only[Option.some.injEq] at hk';subst hk';exact⟨hkN,.mc hv p hq⟩
 ·exact hr.tmp k' av hk'
theorem awp_room(k:Nat){b sz lo n q n':Nat}{row:Nat->List D}(hk:get t k=some (.mc b sz lo n q))(hb:σ[b]? =some (.arr sz n' row))(hn:n'<=lo+q)(h: ∀row',(∀i,i<n'->row' i=row i)->dY P c Q ⟨N,t,σ.set b (.arr sz (lo+q) row'),mv⟩):dY P c Q ⟨N,t,σ,mv⟩:=by
 intro j0 j a w hr;obtain⟨hkN,hv⟩:=hr.tmp k _ hk;obtain⟨o,ho,hB⟩:=hr.cZ.blk b _ hb;have key: ∃row',(∀i,i<n'->row' i=row i)/\RB w j (.arr sz (lo+q) row') o:=by
  revert hv
  generalize a.tmps.getD k Go.undef=v
  intro hv;cases hv with|mc hv p hp=>
  have fin: ∀cb e m,j[b]? =some (some cb)->w.shape? cb=some (e,m)->(lo+q)*sz=m->∃row',(∀i,i<n'->row' i=row i)/\RB w j (.arr sz (lo+q) row') o:=by
   intro cb e m hj hs hm;rw[hj] at ho;cases ho
   obtain⟨C,e',⟨f,hC,vI⟩,hCs,Gn⟩:=hB;have hfz:=Or.imp_left And.left vI;have hm':C.size=m:=by rw[mO hC] at hs;simp at hs;exact hs.2
   refine⟨fun i=>if i<n' then row i else(List.range sz).map fun r=> .v (C.getD (i*sz+r) Go.undef),fun i hi=>by simp[hi],C,e',⟨f,hC,vI⟩,by omega,fun i hi=> ?_⟩;by_cases hin:i<n'
   ·simp only[hin,if_true];exact Gn i hin
   ·simp only[hin,if_false];refine⟨by simp,fun r hr=> ?_⟩;have e1:((List.range sz).map fun r=>D.v (C.getD (i*sz+r) Go.undef)).getD r default= .v (C.getD (i*sz+r) Go.undef):=by
     simp[List.getD_eq_getElem?_getD,hr]
    rw[e1];exact .v _
  cases hv with
  | @ms _ _ _ _ cb q' e m h1 h2 h3 h4=>cases hp;exact fin cb e m h1 h2 h4
  |ms0 p' h1=>
   cases hp
   rw[h1] at ho;cases ho
   have:n'=0:=hB;exact⟨row,fun _ _=>rfl,rfl⟩
  | @sN _ _ _ cb p' e m h1 h2 h3 h4=>cases hp;exact fin cb e m h1 h2 (by simpa using h4)
 obtain⟨row',h1,h2⟩:=key;refine h row' h1 j0 j a w ⟨hr.defers,hr.jw,hr.size,hr.tmp,⟨by simp[hr.cZ.len],hr.cZ.lt,hr.cZ.inj,fun b' x hx=> ?_⟩,hr.len0,hr.ag⟩;rw[List.getElem?_set] at hx;split at hx
 ·rename_i e;subst e;split at hx<;>simp at hx;subst hx;exact⟨o,ho,h2⟩
 ·exact hr.cZ.blk b' x hx
theorem Rz{w:World}{j:Js}(hS:aS w j σ)(b:Nat):aS w (j.set b none) ((σ.map (bW [b])).set b .dead)/\Ev j w (j.set b none) w/\Ag j (j.set b none) [b]:=by
 have he:Ev j w (j.set b none) w:=⟨Nat.le_refl _,fun _ _ _=>rfl,fun c _ hm=>dG hm,fun _ _=>rfl,fun _ _=>rfl,rfl,rfl,rfl,fun _ r h=>⟨r,h⟩⟩;have hag:Ag j (j.set b none) [b]:=fun q hq hn=>by
  simp at hn;rw[List.getElem?_set_ne (by omega)]
 refine⟨⟨by simp[hS.len],fun q cb hq=> ?_,fun q q' cb hq hq'=> ?_,fun q y hy=> ?_⟩,he,hag⟩
 ·rw[List.getElem?_set] at hq;split at hq
  ·split at hq<;>simp at hq
  ·exact hS.lt q cb hq
 ·rw[List.getElem?_set] at hq hq';split at hq
  ·split at hq<;>simp at hq
  ·split at hq'
   ·split at hq'<;>simp at hq'
   ·exact hS.inj q q' cb hq hq'
 ·rw[List.getElem?_set] at hy;split at hy
  ·rename_i e;subst e;simp only[List.length_map] at hy;split at hy<;>simp at hy;rename_i hlt;subst hy;exact⟨none,by rw[List.getElem?_set];simp[hS.len,hlt],trivial⟩
  ·rename_i e;simp only[List.getElem?_map,Option.map_eq_some_iff] at hy;obtain⟨y',hy',rfl⟩:=hy;obtain⟨o,ho,hB⟩:=hS.blk q y' hy';exact⟨o,by rw[List.getElem?_set];simp[e,ho],hB.monoX he hS.lt hag fun _ _=>rfl⟩
theorem AU(b:Nat)(ht:cO [b] t=t')(hσ:(σ.map (bW [b])).set b .dead=σ')(h:dY P c Q ⟨N,t',σ',mv++[b]⟩):dY P c Q ⟨N,t,σ,mv⟩:=by
 subst ht hσ;refine iW (s':=⟨N,cO [b] t,(σ.map (bW [b])).set b .dead,mv++[b]⟩) ?_ h;intro j0 j a w hr;obtain⟨h1,h2,h3⟩:=Rz hr.cZ b;exact⟨_,hr.after h2 h1 (by simp) h3,h2⟩
theorem PZ(b:Nat){sz n':Nat}{row:Nat->List D}(hb:σ[b]? =some (.arr sz n' row))(ht:ED b sz n' row t=t')(hσ:(σ.map (bW [b])).set b .dead=σ')(h:dY P c Q ⟨N,t',σ',mv++[b]⟩):dY P c Q ⟨N,t,σ,mv⟩:=by
 subst ht hσ;refine iW (s':=⟨N,ED b sz n' row t,(σ.map (bW [b])).set b .dead,mv++[b]⟩) ?_ h;intro j0 j a w hr;obtain⟨h1,h2,h3⟩:=Rz hr.cZ b;refine⟨_,⟨hr.defers.mono h2,hr.jw,hr.size,fun k av hk=> ?_,h1,by simpa using hr.len0,hr.ag.trans hr.len0 h3⟩,h2⟩;obtain⟨x,hx,rfl⟩:=O3 hk;exact⟨(hr.tmp k x hx).1,(hr.tmp k x hx).2.pV hr.cZ hb⟩
theorem He(b:Nat){d:Bool}{ks ks':List Key}{f f':Key->AV}(hb:σ[b]? =some (.mp d ks f))(hk:ks.Perm ks')(hf: ∀k∈ks,Same (f k) (f' k))(hfree: ∀k,(f' k).free=true)(hσ:σ.set b (.mp d ks' f')=σ')(h:dY P c Q ⟨N,t,σ',mv⟩):dY P c Q ⟨N,t,σ,mv⟩:=by
 subst hσ;refine iW (s':=⟨N,t,σ.set b (.mp d ks' f'),mv⟩) ?_ h;intro j0 j a w hr;obtain⟨o,ho,hB⟩:=hr.cZ.blk b _ hb;cases o with
 |none=>exact hB.elim
 |some cb=>
 obtain⟨es,cl,h1,h2⟩:=hB;refine⟨j,⟨hr.defers,hr.jw,hr.size,hr.tmp,⟨by simp[hr.cZ.len],hr.cZ.lt,hr.cZ.inj,fun b' x hx=> ?_⟩,hr.len0,hr.ag⟩,.refl _ _⟩;rw[List.getElem?_set] at hx;split at hx
 ·rename_i e;subst e;split at hx<;>simp at hx;subst hx;refine⟨some cb,ho,es,cl,h1,h2.stamped,h2.keys.trans (hk.map _),fun k hk'=>h2.kind k (hk.mem_iff.2 hk'),hfree,fun e he k hke=> ?_⟩;exact hf k (h2.mem.2 ⟨e,he,hke⟩) w j _ (h2.rel e he k hke)
 ·exact hr.cZ.blk b' x hx
end
theorem Same.agg{xs ys:List AV}(hl:xs.length=ys.length)(h: ∀k,k<xs.length->Same (xs.getD k .undef) (ys.getD k .undef)):Same (.agg xs) (.agg ys):=fun w j v hr=>by
 cases hr with
 |agg vs hs hv=>exact .agg vs (by rw[hs,hl]) fun k hk=>h k (by omega) w j _ (hv k (by omega))
theorem Xd(X:List Nat)(x:aC):bW X (bW X x)=bW X x:=by
 cases x with
 |var cs=>
  simp only[bW,List.map_map,aC.var.injEq];apply List.map_congr_left;intro c _;simp only[Function.comp];split
  ·rename_i h;simp
  ·simp[AV.avoids]
 |lp L st pd=>
  simp only[bW,aC.lp.injEq,and_true];rw[Ic fun k av h=>(qY h).2]
 |_=>rfl
theorem Xe(X:List Nat):bW X∘bW X=bW X:=by funext x;exact Xd X x
theorem sF.parts{σ τ:List aC}{x:aC}(h:sF (σ++x::τ))(k:Nat):σ.map (bW [(σ++x::τ).length+k])=σ/\τ.map (bW [(σ++x::τ).length+k])=τ:=by
 have:=h.one k;rw[List.map_append,List.map_cons] at this;obtain⟨h1,h2⟩:=List.append_inj this (by simp);simp only[List.cons.injEq] at h2;exact⟨h1,h2.2⟩
inductive Fr where
 |seq (y:Code)
 |block (id:Nat)
def post(P:Program):List Fr->(Exit->St->Prop)->Exit->St->Prop
 |[],Q=>Q
 | .seq y::k,Q=>xY (dY P y (post P k Q)) (post P k Q)
 | .block id::k,Q=>rJ id (post P k Q)
def Wn:Code->Nat
 | .seq x y=>Wn x+Wn y+3
 | .block _ x=>Wn x+3
 | .cond _ x y=>Wn x+Wn y+3
 |_=>2
def Rk:List Fr->Nat
 |[]=>0
 | .seq y::k=>Wn y+1+Rk k
 | .block _::k=>1+Rk k
def Jl:Code⊕Exit->Nat
 | .inl c=>Wn c
 | .inr _=>1
def Cnd(o:Option AV)(x y:St->Prop)(s:St):Prop:= ∃b s',o=some (.d (.v (.bool b)))/\Sub s s'/\(b=true->x s')/\(b=false->y s')
def Stp(b:Bool)(x y:Prop):Prop:=match b with|true=>x|false=>y
theorem BH(c:Code):2<=Wn c:=by cases c<;>simp[Wn]<;>omega
def wk(P:Program)(b:Bool)(Q:Exit->St->Prop)(c:Code⊕Exit)(k:List Fr)(s:St):Prop:=
 match c,k with
 | .inl (.seq x y),k=>wk P b Q (.inl x) (.seq y::k) s
 | .inl (.block id x),k=>wk P b Q (.inl x) (.block id::k) s
 | .inl .skip,k=>wk P b Q (.inr .normal) k s
 | .inl (.label _),k=>wk P b Q (.inr .normal) k s
 | .inl (.exit i),k=>wk P b Q (.inr (.exit i)) k s
 | .inl (.cond c x y),k=>Cnd (val s c) (fun s=>wk P b Q (.inl x) k s) (fun s=>wk P b Q (.inl y) k s) s
 | .inl (.region id ops false),k=>bI P false ops.toList ops.toList s fun s=>Stp b (wk P b Q (.inr .normal) k s) (post P k Q .normal s)
 | .inl c,k=>dY P c (post P k Q) s
 | .inr e,[]=>Q e s
 | .inr .normal,.seq y::k=>wk P b Q (.inl y) k s
 | .inr e,.seq y::k=>wk P b Q (.inr e) k s
 | .inr (.exit i),.block id::k=>if Nat.beq i id then wk P b Q (.inr .normal) k s else wk P b Q (.inr (.exit i)) k s
 | .inr e,.block id::k=>wk P b Q (.inr e) k s
termination_by Jl c+Rk k
decreasing_by all_goals simp_wf<;>simp[Jl,Wn,Rk]<;>(first|omega|(have:=BH x;have:=BH y;omega)|(have:=BH y;omega)|(have:=BH x;omega))
def Shows(P:Program)(Q:Exit->St->Prop)(k:List Fr)(s:St):Code⊕Exit->Prop
 | .inl c=>dY P c (post P k Q) s
 | .inr e=>post P k Q e s
theorem Wv{P:Program}{b:Bool}{Q:Exit->St->Prop} : ∀(n:Nat) {c:Code⊕Exit} {k:List Fr} {s:St},Jl c+Rk k<=n->wk P b Q c k s->Shows P Q k s c:=by
 intro n;induction n with
 |zero=>
  intro c k s hn h;exfalso;cases c with
  |inl c=>have:=BH c;simp[Jl] at hn;omega
  |inr e=>simp[Jl] at hn
 |succ n ih=>
  intro c k s hn h;cases c with
  |inl c=>
   have hp:=BH c;cases c with
   |skip=>rw[wk] at h;exact aV (ih (by simp[Jl,Wn] at hn⊢;omega) h)
   |label l=>rw[wk] at h;exact awp_label (ih (by simp[Jl,Wn] at hn⊢;omega) h)
   |exit i=>rw[wk] at h;exact dh (ih (by simp[Jl,Wn] at hn⊢;omega) h)
   |seq x y=>rw[wk] at h;exact aK (ih (c:= .inl x) (by simp[Jl,Wn,Rk] at hn⊢;omega) h)
   |block id x=>rw[wk] at h;exact aN (ih (c:= .inl x) (by simp[Jl,Wn,Rk] at hn⊢;omega) h)
   |cond c x y=>
    rw[wk] at h;obtain⟨b,s',ho,hs,ht,hf⟩:=h;intro j0 j a w hr;have hv:=ER hr ho;have hb:a.eval c= .bool b:=by
     generalize a.eval c=u at hv
     cases hv with|d h=>cases h;rfl
    refine wpIn_cond hb ?_;cases b with
    |true=>exact iW hs (ih (c:= .inl x) (by simp[Jl,Wn] at hn⊢;omega) (ht rfl)) j0 j a w hr
    |false=>exact iW hs (ih (c:= .inl y) (by simp[Jl,Wn] at hn⊢;omega) (hf rfl)) j0 j a w hr
   |region id ops draw=>
    cases draw with
    |true=>rw[wk] at h;exact h;all_goals simp
    |false=>
     rw[wk] at h;show dY P (.region id ops false) (post P k Q) s
     have e:ops=ops.toList.toArray:=by simp
     rw[e];refine dY.mono (EL (Q:=fun e s=>match e with| .normal=>Stp b (wk P b Q (.inr .normal) k s) (post P k Q .normal s)|_=>False) h) fun e s he=> ?_;cases e with
     |normal=>cases b with
      |true=>exact ih (c:= .inr .normal) (by simp[Jl,Wn] at hn⊢;omega) he
      |false=>exact he
     |_=>exact he.elim
   |loop x=>rw[wk] at h;exact h;all_goals simp
   |rangeFunc f p x y=>rw[wk] at h;exact h;all_goals simp
   |scope x=>rw[wk] at h;exact h;all_goals simp
   |goto l=>rw[wk] at h;exact h;all_goals simp
   |ret=>rw[wk] at h;exact h;all_goals simp
   |refuse w=>rw[wk] at h;exact h;all_goals simp
  |inr e=>
   cases k with
   |nil=>rw[wk] at h;exact h
   |cons f k=>
    cases f with
    |seq y=>
     cases e with
     |normal=>rw[wk] at h;exact ih (c:= .inl y) (by simp[Jl,Rk] at hn⊢;omega) h
     |exit i=>rw[wk] at h;exact ih (c:= .inr (.exit i)) (k:=k) (by simp[Jl,Rk] at hn⊢;omega) h;all_goals simp
     |goto l=>rw[wk] at h;exact ih (c:= .inr (.goto l)) (k:=k) (by simp[Jl,Rk] at hn⊢;omega) h;all_goals simp
     |ret=>rw[wk] at h;exact ih (c:= .inr (.ret)) (k:=k) (by simp[Jl,Rk] at hn⊢;omega) h;all_goals simp
     |panic q=>rw[wk] at h;exact ih (c:= .inr (.panic q)) (k:=k) (by simp[Jl,Rk] at hn⊢;omega) h;all_goals simp
     |outgrown=>rw[wk] at h;exact ih (c:= .inr (.outgrown)) (k:=k) (by simp[Jl,Rk] at hn⊢;omega) h;all_goals simp
    |block id=>
     cases e with
     |exit i=>
      rw[wk] at h;show rJ id (post P k Q) (.exit i) s
      rw[Gl];split at h
      ·rename_i h1;rw[if_pos h1];exact ih (c:= .inr .normal) (k:=k) (by simp[Jl,Rk] at hn⊢;omega) h
      ·rename_i h1;rw[if_neg h1];exact ih (c:= .inr (.exit i)) (k:=k) (by simp[Jl,Rk] at hn⊢;omega) h
     |normal=>rw[wk] at h;exact ih (c:= .inr .normal) (k:=k) (by simp[Jl,Rk] at hn⊢;omega) h;all_goals simp
     |goto l=>rw[wk] at h;exact ih (c:= .inr (.goto l)) (k:=k) (by simp[Jl,Rk] at hn⊢;omega) h;all_goals simp
     |ret=>rw[wk] at h;exact ih (c:= .inr .ret) (k:=k) (by simp[Jl,Rk] at hn⊢;omega) h;all_goals simp
     |panic q=>rw[wk] at h;exact ih (c:= .inr (.panic q)) (k:=k) (by simp[Jl,Rk] at hn⊢;omega) h;all_goals simp
     |outgrown=>rw[wk] at h;exact ih (c:= .inr .outgrown) (k:=k) (by simp[Jl,Rk] at hn⊢;omega) h;all_goals simp
section
variable {P : Program} {b : Bool} {Q : Exit -> St -> Prop} {N : Nat} {t : List (Nat × AV)} {σ : List aC} {mv : List Nat} {k : List Fr}
theorem go(b:Bool){c:Code}{s:St}(h:wk P b Q (.inl c) k s):dY P c (post P k Q) s:=Wv _ (Nat.le_refl _) h
theorem go0(b:Bool){c:Code}{s:St}(h:wk P b Q (.inl c) [] s):dY P c Q s:=Wv _ (Nat.le_refl _) h
theorem wk_skip:wk P b Q (.inl .skip) k ⟨N,t,σ,mv⟩=wk P b Q (.inr .normal) k ⟨N,t,σ,mv⟩:=by rw[wk]
theorem wk_label{l:Nat} :wk P b Q (.inl (.label l)) k ⟨N,t,σ,mv⟩=wk P b Q (.inr .normal) k ⟨N,t,σ,mv⟩:=by rw[wk]
theorem wk_exit{i:Nat} :wk P b Q (.inl (.exit i)) k ⟨N,t,σ,mv⟩=wk P b Q (.inr (.exit i)) k ⟨N,t,σ,mv⟩:=by rw[wk]
theorem wk_seq{x y:Code} :wk P b Q (.inl (.seq x y)) k ⟨N,t,σ,mv⟩=wk P b Q (.inl x) (.seq y::k) ⟨N,t,σ,mv⟩:=by rw[wk]
theorem wk_block{id:Nat}{x:Code} :wk P b Q (.inl (.block id x)) k ⟨N,t,σ,mv⟩=wk P b Q (.inl x) (.block id::k) ⟨N,t,σ,mv⟩:=by rw[wk]
theorem wk_cond{c:Operand}{x y:Code} :wk P b Q (.inl (.cond c x y)) k ⟨N,t,σ,mv⟩=Cnd (val ⟨N,t,σ,mv⟩ c) (fun s=>wk P b Q (.inl x) k s) (fun s=>wk P b Q (.inl y) k s) ⟨N,t,σ,mv⟩:=by rw[wk]
def Nx(P:Program)(b:Bool)(Q:Exit->St->Prop)(k:List Fr)(s:St):Prop:=Stp b (wk P b Q (.inr .normal) k s) (post P k Q .normal s)
theorem wk_reg{id:Nat}{ops:List Oper} :wk P b Q (.inl (.region id ops.toArray false)) k ⟨N,t,σ,mv⟩=bI P false ops ops ⟨N,t,σ,mv⟩ (Nx P b Q k):=by rw[wk];rfl
theorem wk_draw{id:Nat}{ops:Array Oper} :wk P b Q (.inl (.region id ops true)) k ⟨N,t,σ,mv⟩=dY P (.region id ops true) (post P k Q) ⟨N,t,σ,mv⟩:=by rw[wk];all_goals simp
theorem wk_ret:wk P b Q (.inl .ret) k ⟨N,t,σ,mv⟩=dY P .ret (post P k Q) ⟨N,t,σ,mv⟩:=by rw[wk];all_goals simp
theorem wk_loop{c:Code} :wk P b Q (.inl (.loop c)) k ⟨N,t,σ,mv⟩=dY P (.loop c) (post P k Q) ⟨N,t,σ,mv⟩:=by rw[wk];all_goals simp
theorem TP{f:Operand}{p:Array Tmp}{x y:Code} :wk P b Q (.inl (.rangeFunc f p x y)) k ⟨N,t,σ,mv⟩=dY P (.rangeFunc f p x y) (post P k Q) ⟨N,t,σ,mv⟩:=by rw[wk];all_goals simp
theorem wk_end{e:Exit} :wk P b Q (.inr e) [] ⟨N,t,σ,mv⟩=Q e ⟨N,t,σ,mv⟩:=by rw[wk]
theorem wk_then{y:Code} :wk P b Q (.inr .normal) (.seq y::k) ⟨N,t,σ,mv⟩=wk P b Q (.inl y) k ⟨N,t,σ,mv⟩:=by conv=>lhs;rw[wk]
theorem wk_past{y:Code}{i:Nat} :wk P b Q (.inr (.exit i)) (.seq y::k) ⟨N,t,σ,mv⟩=wk P b Q (.inr (.exit i)) k ⟨N,t,σ,mv⟩:=by rw[wk];all_goals simp
theorem wk_out{id:Nat} :wk P b Q (.inr .normal) (.block id::k) ⟨N,t,σ,mv⟩=wk P b Q (.inr .normal) k ⟨N,t,σ,mv⟩:=by rw[wk];all_goals simp
theorem wk_exits{id i:Nat} :wk P b Q (.inr (.exit i)) (.block id::k) ⟨N,t,σ,mv⟩=if Nat.beq i id then wk P b Q (.inr .normal) k ⟨N,t,σ,mv⟩ else wk P b Q (.inr (.exit i)) k ⟨N,t,σ,mv⟩:=by rw[wk]
theorem Nx_on:Nx P true Q k ⟨N,t,σ,mv⟩=wk P true Q (.inr .normal) k ⟨N,t,σ,mv⟩:=rfl
theorem Nx_off:Nx P false Q k ⟨N,t,σ,mv⟩=post P k Q .normal ⟨N,t,σ,mv⟩:=rfl
theorem post_end{e:Exit} :post P [] Q e ⟨N,t,σ,mv⟩=Q e ⟨N,t,σ,mv⟩:=rfl
theorem post_then{y:Code} :post P (.seq y::k) Q .normal ⟨N,t,σ,mv⟩=dY P y (post P k Q) ⟨N,t,σ,mv⟩:=rfl
theorem post_exit{y:Code}{i:Nat} :post P (.seq y::k) Q (.exit i) ⟨N,t,σ,mv⟩=post P k Q (.exit i) ⟨N,t,σ,mv⟩:=rfl
theorem post_ret{y:Code} :post P (.seq y::k) Q .ret ⟨N,t,σ,mv⟩=post P k Q .ret ⟨N,t,σ,mv⟩:=rfl
theorem post_out{id:Nat} :post P (.block id::k) Q .normal ⟨N,t,σ,mv⟩=post P k Q .normal ⟨N,t,σ,mv⟩:=rfl
theorem post_retb{id:Nat} :post P (.block id::k) Q .ret ⟨N,t,σ,mv⟩=post P k Q .ret ⟨N,t,σ,mv⟩:=rfl
theorem aal{id i:Nat} :post P (.block id::k) Q (.exit i) ⟨N,t,σ,mv⟩=if Nat.beq i id then post P k Q .normal ⟨N,t,σ,mv⟩ else post P k Q (.exit i) ⟨N,t,σ,mv⟩:=rfl
theorem Cnd_congr{o o':Option AV}{x y:St->Prop}{s:St}(h:o=o'):Cnd o x y s=Cnd o' x y s:=by rw[h]
theorem AWP_congr{c:Code}{s s':St}(h:s=s'):dY P c Q s=dY P c Q s':=by rw[h]
theorem wk_congr{c:Code⊕Exit}{s s':St}(h:s=s'):wk P b Q c k s=wk P b Q c k s':=by rw[h]
theorem Nx_congr{s s':St}(h:s=s'):Nx P b Q k s=Nx P b Q k s':=by rw[h]
theorem Rest_congr{dr:Bool}{all os:List Oper}{K:St->Prop}{s s':St}(h:s=s'):Rest P dr all os K s=Rest P dr all os K s':=by rw[h]
theorem cnd{x y:St->Prop}{o:Option AV}{b:Bool}(L:List Nat)(h:o=some (.d (.v (.bool b))))(ht:b=true->x ⟨N,bf L t,σ,mv⟩)(hf:b=false->y ⟨N,bf L t,σ,mv⟩):Cnd o x y ⟨N,t,σ,mv⟩:=
 ⟨b,⟨N,bf L t,σ,mv⟩,h,Less.sub ⟨rfl,fun _ h=>h,rfl,fun k av hk=>by
  simp only at hk;rw[iE] at hk;split at hk
  ·exact hk
  ·simp at hk⟩,ht,hf⟩
theorem cnd0{x y:St->Prop}{o:Option AV}{b:Bool}(h:o=some (.d (.v (.bool b))))(ht:b=true->x ⟨N,t,σ,mv⟩)(hf:b=false->y ⟨N,t,σ,mv⟩):Cnd o x y ⟨N,t,σ,mv⟩:=⟨b,_,h,Sub.refl _,ht,hf⟩
inductive Bk{α:Type}(N:Nat)(t:List (Nat×AV))(mv:List Nat)(upd:α->List (Nat×AV))(uK:α->List aC)(ok:α->Prop)(μ:α->Nat)(x:α)(s:St):Prop
 |mk (x':α) (h1:Back ⟨N,puts t (upd x),uK x,mv⟩ s ⟨N,puts t (upd x'),uK x',mv⟩) (h2:ok x') (h3:μ x'<μ x)
 |no (h:False)
theorem Bk.get{α:Type}{upd:α->List (Nat×AV)}{uK:α->List aC}{ok:α->Prop}{μ:α->Nat}{x:α}{s:St}(h:Bk N t mv upd uK ok μ x s): ∃x',Back ⟨N,puts t (upd x),uK x,mv⟩ s ⟨N,puts t (upd x'),uK x',mv⟩/\ok x'/\μ x'<μ x:=by
 cases h with
 |mk x' h1 h2 h3=>exact⟨x',h1,h2,h3⟩
 |no h=>exact h.elim
theorem ZN{X Y:St->Prop}{Z:Exit->St->Prop}(h: ∀s,X s->Y s){e:Exit}{s:St}(hx:xY X Z e s):xY Y Z e s:=by
 cases e with
 |normal=>exact h s hx
 |_=>exact hx
theorem Bk_congr{α:Type}{upd:α->List (Nat×AV)}{uK:α->List aC}{ok:α->Prop}{μ:α->Nat}{x:α}{s s':St}(h:s=s'):Bk N t mv upd uK ok μ x s=Bk N t mv upd uK ok μ x s':=by rw[h]
theorem bk{α:Type}{upd:α->List (Nat×AV)}{uK:α->List aC}{ok:α->Prop}{μ:α->Nat}{x:α}(x':α){t':List (Nat×AV)}{σ':List aC}{mv':List Nat}(h:Tt (puts t (upd x)) (uK x).length (puts t (upd x')) t')
  (hσ: ∃g,σ'=uK x'++g) (hok:ok x') (hμ:μ x'<μ x) (hb:Leaves (uK x) (uK x')) (hm: ∀x∈mv',x∈mv:=by simp):Bk N t mv upd uK ok μ x ⟨N,t',σ',mv'⟩:=
 .mk x' (bK hσ hb h hm) hok hμ
theorem lpU{c:Code}{α:Type}(b:Bool)(L M:List Nat)(upd:α->List (Nat×AV))(uK:α->List aC)(ok:α->Prop)(μ:α->Nat)(x₀:α)(h0:MK (upd x₀) (bf L t))(hσ:σ=uK x₀)(hx₀:ok x₀)(hM: ∀x∈mv,x∈M)
  (round: ∀x,ok x->wk P b (xY (Bk N (bf L t) M upd uK ok μ x) (post P k Q)) (.inl c) [] ⟨N,puts (bf L t) (upd x),uK x,M⟩):dY P (.loop c) (post P k Q) ⟨N,t,σ,mv⟩:=
 bF L rfl (qg M hM (bU upd uK ok μ x₀ h0 hσ hx₀ fun x hx=>(go0 b (round x hx)).mono fun e s h=>ZN (fun s h=>h.get) h))
theorem zJ{c:Code}{α:Type}(b:Bool)(L:List Nat)(upd:α->List (Nat×AV))(uK:α->List aC)(ok:α->Prop)(μ:α->Nat)(x₀:α)(h0:MK (upd x₀) (bf L t))(hσ:σ=uK x₀)(hx₀:ok x₀)
  (round: ∀x,ok x->wk P b (xY (Bk N (bf L t) mv upd uK ok μ x) (post P k Q)) (.inl c) [] ⟨N,puts (bf L t) (upd x),uK x,mv⟩):dY P (.loop c) (post P k Q) ⟨N,t,σ,mv⟩:=
 lpU b L mv upd uK ok μ x₀ h0 hσ hx₀ (fun _ h=>h) round
end
attribute [go_sem ↓] wk_skip wk_label wk_exit wk_seq wk_block wk_cond wk_reg wk_draw wk_ret wk_loop TP wk_end wk_then wk_past wk_out wk_exits Nx_on Nx_off post_end post_then post_exit post_ret post_out post_retb aal
attribute [go_sem] bf List.contains_cons List.contains_nil Bool.or_false Bool.or_true Bool.true_or Bool.false_or
attribute [congr] Cnd_congr AWP_congr wk_congr Nx_congr Rest_congr Bk_congr
section
variable {P : Program} {Q : Exit -> St -> Prop} {k : List Fr} {N : Nat} {t : List (Nat × AV)} {σ : List aC} {mv : List Nat}
theorem aH{x y:St->Prop}{o:Option AV}{b:Bool}{D E:Prop}(L:List Nat)(ht:b=true->D->x ⟨N,bf L t,σ,mv⟩)(hf:b=false->E->y ⟨N,bf L t,σ,mv⟩)(h:o=some (.d (.v (.bool b))):=by exact rfl)(hD:b=true->D:=by intro h;first|(simp at h;exact h)|exact h)(hE:b=false->E:=by intro h;first|(simp at h;exact h)|exact h):Cnd o x y ⟨N,t,σ,mv⟩:=cnd L h (fun h=>ht h (hD h)) fun h=>hf h (hE h)
theorem jT{x y:St->Prop}{o:Option AV}{b:Bool}{D E:Prop}(ht:b=true->D->x ⟨N,t,σ,mv⟩)(hf:b=false->E->y ⟨N,t,σ,mv⟩)(h:o=some (.d (.v (.bool b))):=by exact rfl)(hD:b=true->D:=by intro h;first|(simp at h;exact h)|exact h)(hE:b=false->E:=by intro h;first|(simp at h;exact h)|exact h):Cnd o x y ⟨N,t,σ,mv⟩:=cnd0 h (fun h=>ht h (hD h)) fun h=>hf h (hE h)
theorem ig{s:St}{c:Operand}{x y:Code}{b:Bool}{D E:Prop}(ht:b=true->D->dY P x Q s)(hf:b=false->E->dY P y Q s)(hc:val s c=some (.d (.v (.bool b))):=by exact rfl)(hD:b=true->D:=by intro h;first|(simp at h;exact h)|exact h)(hE:b=false->E:=by intro h;first|(simp at h;exact h)|exact h):dY P (.cond c x y) Q s:=AX hc (fun h=>ht h (hD h)) fun h=>hf h (hE h)
theorem cn{x y:St->Prop}{o:Option AV}{b:Bool}(L:List Nat)(h:o=some (.d (.v (.bool b))))(ht:b=true->b=true->x ⟨N,bf L t,σ,mv⟩)(hf:b=false->b=false->y ⟨N,bf L t,σ,mv⟩):Cnd o x y ⟨N,t,σ,mv⟩:=cnd L h (fun h=>ht h h) fun h=>hf h h
theorem acn{s:St}{c:Operand}{x y:Code}{b:Bool}(hc:val s c=some (.d (.v (.bool b))))(ht:b=true->b=true->dY P x Q s)(hf:b=false->b=false->dY P y Q s):dY P (.cond c x y) Q s:=AX hc (fun h=>ht h h) fun h=>hf h h
theorem dB{α:Type}{upd:α->List (Nat×AV)}{uK:α->List aC}{ok:α->Prop}{μ:α->Nat}{x:α}(x':α){t':List (Nat×AV)}{σ':List aC}{mv':List Nat}(hok:ok x')(h:Tt (puts t (upd x)) (uK x).length (puts t (upd x')) t':=by simp[go_sem]<;>omega)
  (hσ: ∃g,σ'=uK x'++g:=by simp) (hμ:μ x'<μ x:=by first|omega|(dsimp only;omega)) (hb:Leaves (uK x) (uK x'):=by exact .refl _) (hm: ∀x∈mv',x∈mv:=by simp):Bk N t mv upd uK ok μ x ⟨N,t',σ',mv'⟩:=bk x' h hσ hok hμ hb hm
theorem gy{c:Code}{α:Type}(b:Bool)(L:List Nat)(upd:α->List (Nat×AV))(uK:α->List aC)(ok:α->Prop)(μ:α->Nat)(x₀:α)
  (round: ∀x,ok x->wk P b (xY (Bk N (bf L t) mv upd uK ok μ x) (post P k Q)) (.inl c) [] ⟨N,puts (bf L t) (upd x),uK x,mv⟩) (hx:ok x₀:=by simp) (h0:MK (upd x₀) (bf L t):=by simp[go_sem]) (hσ:σ=uK x₀:=by exact rfl):dY P (.loop c) (post P k Q) ⟨N,t,σ,mv⟩:=zJ b L upd uK ok μ x₀ h0 hσ hx round
end
section
variable {P : Program} {f : FuncId} {fn : Func} {c : Code} {args : List AV} {σ : List aC} {r : AV} {Q : AV -> List aC -> Prop} {R : AV -> List aC -> List Nat -> Prop}
theorem ay.be(hf:P.funcs[f]? =some fn)(h:sF σ->dY P c (zn P fn σ r) (St.init fn.ntmps args σ))(hen:dO P f=true:=by kernel_rfl)(hb:fn.body=some c:=by exact rfl)(hN:Nat.ble args.length fn.ntmps=true:=by exact rfl)(hr:r.under σ.length:=by simp[go_sem]):ay P f args σ r:=ay.Lr hen hf hb (Nat.le_of_ble_eq_true hN) hr h
theorem ay.bd(b:Bool)(hf:P.funcs[f]? =some fn)(h:sF σ->wk P b (zn P fn σ r) (.inl c) [] (St.init fn.ntmps args σ))(hen:dO P f=true:=by kernel_rfl)(hb:fn.body=some c:=by exact rfl)(hN:Nat.ble args.length fn.ntmps=true:=by exact rfl)(hr:r.under σ.length:=by simp[go_sem]):ay P f args σ r:=ay.Lr hen hf hb (Nat.le_of_ble_eq_true hN) hr fun w=>go0 b (h w)
theorem CS.beD(X:List Nat)(hf:P.funcs[f]? =some fn)(h:sF σ->dY P c (zo P fn σ X Q) (St.init fn.ntmps args σ))(hen:dO P f=true:=by kernel_rfl)(hb:fn.body=some c:=by exact rfl)(hN:Nat.ble args.length fn.ntmps=true:=by exact rfl):CS P f args σ fun r σ' X'=>X'=X/\Q r σ':=CS.Xv X hen hf hb (Nat.le_of_ble_eq_true hN) h
theorem CS.bdD(b:Bool)(X:List Nat)(hf:P.funcs[f]? =some fn)(h:sF σ->wk P b (zo P fn σ X Q) (.inl c) [] (St.init fn.ntmps args σ))(hen:dO P f=true:=by kernel_rfl)(hb:fn.body=some c:=by exact rfl)(hN:Nat.ble args.length fn.ntmps=true:=by exact rfl):CS P f args σ fun r σ' X'=>X'=X/\Q r σ':=CS.Xv X hen hf hb (Nat.le_of_ble_eq_true hN) fun w=>go0 b (h w)
theorem CS.beW(hf:P.funcs[f]? =some fn)(h:sF σ->dY P c (BN P fn R) (St.init fn.ntmps args σ))(hen:dO P f=true:=by kernel_rfl)(hb:fn.body=some c:=by exact rfl)(hN:Nat.ble args.length fn.ntmps=true:=by exact rfl):CS P f args σ R:=CS.Xu hen hf hb (Nat.le_of_ble_eq_true hN) h
theorem CS.Zh(b:Bool)(hf:P.funcs[f]? =some fn)(h:sF σ->wk P b (BN P fn R) (.inl c) [] (St.init fn.ntmps args σ))(hen:dO P f=true:=by kernel_rfl)(hb:fn.body=some c:=by exact rfl)(hN:Nat.ble args.length fn.ntmps=true:=by exact rfl):CS P f args σ R:=CS.Xu hen hf hb (Nat.le_of_ble_eq_true hN) fun w=>go0 b (h w)
end
theorem sm{G H:Prop}(h:H)(e:H->G:=by intro h;simp[go_sem];exact h):G:=e h
theorem sc{G:Prop}(e:G:=by simp[go_sem]):G:=e
theorem so{G:Prop}(e:G:=by simp[go_sem]<;>omega):G:=e
section
variable {P : Program} {f : FuncId} {fn : Func} {c : Code} {args : List AV} {σ : List aC} {r : AV} {Q : AV -> List aC -> Prop} {R : AV -> List aC -> List Nat -> Prop} {H : Prop}
theorem ay.bs(b:Bool)(hf:P.funcs[f]? =some fn)(h:sF σ->H)(hen:dO P f=true:=by kernel_rfl)(hb:fn.body=some c:=by exact rfl)(hN:Nat.ble args.length fn.ntmps=true:=by exact rfl)(hr:r.under σ.length:=by simp[go_sem])(e:H->wk P b (zn P fn σ r) (.inl c) [] (St.init fn.ntmps args σ):=by intro h;simp[go_sem];exact h):ay P f args σ r:=ay.bd b hf (fun w=>e (h w)) hen hb hN hr
theorem CS.bsD(b:Bool)(X:List Nat)(hf:P.funcs[f]? =some fn)(h:sF σ->H)(hen:dO P f=true:=by kernel_rfl)(hb:fn.body=some c:=by exact rfl)(hN:Nat.ble args.length fn.ntmps=true:=by exact rfl)(e:H->wk P b (zo P fn σ X Q) (.inl c) [] (St.init fn.ntmps args σ):=by intro h;simp[go_sem];exact h):CS P f args σ fun r σ' X'=>X'=X/\Q r σ':=CS.bdD b X hf (fun w=>e (h w)) hen hb hN
theorem CS.bsW(b:Bool)(hf:P.funcs[f]? =some fn)(h:sF σ->H)(hen:dO P f=true:=by kernel_rfl)(hb:fn.body=some c:=by exact rfl)(hN:Nat.ble args.length fn.ntmps=true:=by exact rfl)(e:H->wk P b (BN P fn R) (.inl c) [] (St.init fn.ntmps args σ):=by intro h;simp[go_sem];exact h):CS P f args σ R:=CS.Zh b hf (fun w=>e (h w)) hen hb hN
end
theorem aF{P:Program}{c:Code}{Q:Exit->St->Prop}{N:Nat}{t t':List (Nat×AV)}{nM σ σ':List aC}{mv:List Nat}{sz n':Nat}{row:Nat->List D}(w:sF nM)(b:Nat)(h:dY P c Q ⟨N,t',σ',b::mv⟩)(hb:σ[b]? =some (.arr sz n' row):=by simp[go_sem];first|exact⟨rfl,rfl,rfl⟩|exact⟨rfl,rfl⟩|exact rfl)(ht:ED b sz n' row t=t':=by simp[go_sem];rfl)
  (hσ:(∀k sz n' row,nM.map (KT (nM.length+k) sz n' row)=nM)->(∀sz n' row,nM.map (KT nM.length sz n' row)=nM)->Yj b sz n' row σ=σ':=by intro h1 h2;simp[go_sem,h1,h2];rfl):dY P c Q ⟨N,t,σ,mv⟩:=dM b hb ht (hσ w.uN w.yL) h
theorem pW{P:Program}{c:Code}{Q:Exit->St->Prop}{N:Nat}{t t':List (Nat×AV)}{σ:List aC}{mv:List Nat}(L:List Nat)(h':dY P c Q ⟨N,t',σ,mv⟩)(h:bf L t=t':=by simp only[bf,List.contains_cons,List.contains_nil,Nat.reduceBEq,Bool.or_false,Bool.or_true,Bool.true_or,Bool.false_or,if_true,if_false,Bool.false_eq_true];rfl):dY P c Q ⟨N,t,σ,mv⟩:=bF L h h'
theorem nP{A B:Prop}(h:A)(e:A->B:=by intro h;simp only[List.append_assoc,List.cons_append,List.nil_append,List.length_append,List.length_cons,List.length_nil,Nat.zero_add,Nat.reduceAdd] at h;exact h):B:=e h
theorem nA{A B:Prop}(h:A)(e:A->B:=by intro h;simp only[List.append_assoc,List.cons_append,List.nil_append,List.length_append,List.length_cons,List.length_nil,Nat.zero_add,Nat.add_assoc,Nat.reduceAdd] at h;exact h):B:=e h
theorem nT{A B:Prop}(h:A)(e:A->B:=by intro h;(try simp only[List.append_assoc,List.cons_append,List.nil_append,List.length_append,List.length_cons,List.length_nil,Nat.zero_add,Nat.add_assoc,Nat.reduceAdd] at h);exact h):B:=e h
theorem wS(i:Nat)(h:i<1000000000:=by omega):IntKind.i64.wrap ((i:Int)+1)=((i+1:Nat):Int):=wrap_succ h
end Go.aU
namespace Go.Proofs.YthlhlnbcjlpigaaGreatDoor
open Go.aU Go.Proofs.Tryz
@[go_sem] theorem T.arA_272:arA prog 272=some (25,1)/\arA prog 349=some (24,1)/\arA prog 351=some (25,1)/\arA prog 395=some (5,1)/\arA prog 455=some (32,1)/\arA prog 456=some (64,1)/\arV prog 272=some (25,false,1)/\arV prog 349=some (24,false,1):=by and_intros<;>kernel_rfl
@[go_sem] theorem T.arV_498:arV prog 498=some (12,false,1)/\boolT prog 4=true/\lT prog 206=none/\lT prog 244=none/\lT prog 246=none/\lT prog 265=none/\lT prog 271=some 5/\lT prog 3=none:=by and_intros<;>kernel_rfl
@[go_sem] theorem T.bytesT_407:lT prog 407=none/\lT prog 452=none/\lT prog 5=none/\lT prog 9=none/\ZE prog 124=some [.i,.i,.i,.i,.i,.i]/\ZE prog 139=some [.i,.i]/\ZE prog 143=some [.i,.i,.i,.i,.i,.i,.i]/\ZE prog 148=some [.i,.i,.i,.i]:=by and_intros<;>kernel_rfl
@[go_sem] theorem T.eqA_160:ZE prog 160=some [.i,.i]/\ZE prog 168=some [.i,.i,.i,.b,.i,.i]/\ZE prog 171=some [.i,.s,.i,.i,.i,.i]/\ZE prog 174=some [.i,.i,.i,.b,.i,.i]/\ZE prog 177=some [.i,.i,.i,.i,.i,.i]/\ZE prog 42=some [.i,.i]/\ZE prog 73=some [.i,.i,.i]/\ZE prog 87=some [.i,.i]:=by and_intros<;>kernel_rfl
@[go_sem] theorem T.eqA_94:ZE prog 94=some [.i,.i,.i,.i]/\aG prog 124 0=some 0/\aG prog 124 1=some 1/\aG prog 124 2=some 2/\aG prog 124 3=some 4/\aG prog 129 0=some 0/\aG prog 129 1=some 1/\aG prog 139 0=some 0:=by and_intros<;>kernel_rfl
@[go_sem] theorem T.fieldA_139_1:aG prog 139 1=some 1/\aG prog 143 0=some 0/\aG prog 143 1=some 1/\aG prog 143 2=some 2/\aG prog 143 3=some 3/\aG prog 143 4=some 4/\aG prog 143 5=some 5/\aG prog 143 6=some 6:=by and_intros<;>kernel_rfl
@[go_sem] theorem T.fieldA_146_0:aG prog 146 0=some 0/\aG prog 146 1=some 1/\aG prog 148 0=some 0/\aG prog 148 1=some 1/\aG prog 148 2=some 2/\aG prog 160 0=some 0/\aG prog 160 1=some 1/\aG prog 168 0=some 0:=by and_intros<;>kernel_rfl
@[go_sem] theorem T.fieldA_168_1:aG prog 168 1=some 1/\aG prog 168 2=some 2/\aG prog 168 3=some 3/\aG prog 168 4=some 4/\aG prog 171 0=some 0/\aG prog 171 1=some 1/\aG prog 171 2=some 2/\aG prog 171 3=some 4:=by and_intros<;>kernel_rfl
@[go_sem] theorem T.fieldA_174_0:aG prog 174 0=some 0/\aG prog 174 1=some 1/\aG prog 174 2=some 2/\aG prog 174 3=some 3/\aG prog 174 4=some 4/\aG prog 177 0=some 0/\aG prog 177 1=some 1/\aG prog 177 2=some 2:=by and_intros<;>kernel_rfl
@[go_sem] theorem T.fieldA_177_3:aG prog 177 3=some 3/\aG prog 177 4=some 4/\aG prog 189 0=some 0/\aG prog 189 1=some 1/\aG prog 189 2=some 2/\aG prog 189 3=some 3/\aG prog 189 4=some 4/\aG prog 194 0=some 0:=by and_intros<;>kernel_rfl
@[go_sem] theorem T.fieldA_194_1:aG prog 194 1=some 16/\aG prog 194 2=some 17/\aG prog 28 0=some 0/\aG prog 28 1=some 1/\aG prog 28 2=some 2/\aG prog 28 3=some 3/\aG prog 28 4=some 4/\aG prog 28 5=some 5:=by and_intros<;>kernel_rfl
@[go_sem] theorem T.fieldA_369_3:aG prog 369 3=some 3/\aG prog 369 4=some 4/\aG prog 375 0=some 0/\aG prog 375 1=some 1/\aG prog 383 0=some 0/\aG prog 383 1=some 25/\aG prog 383 2=some 26/\aG prog 38 0=some 0:=by and_intros<;>kernel_rfl
@[go_sem] theorem T.fieldA_38_1:aG prog 38 1=some 6/\aG prog 38 10=some 15/\aG prog 38 2=some 7/\aG prog 38 3=some 8/\aG prog 38 4=some 9/\aG prog 38 5=some 10/\aG prog 38 6=some 11/\aG prog 38 7=some 12:=by and_intros<;>kernel_rfl
@[go_sem] theorem T.fieldA_38_8:aG prog 38 8=some 13/\aG prog 38 9=some 14/\aG prog 409 0=some 0/\aG prog 409 1=some 1/\aG prog 42 0=some 0/\aG prog 42 1=some 1/\aG prog 430 0=some 0/\aG prog 430 1=some 1:=by and_intros<;>kernel_rfl
@[go_sem] theorem T.fieldA_430_2:aG prog 430 2=some 2/\aG prog 430 3=some 3/\aG prog 448 0=some 0/\aG prog 58 0=some 0/\aG prog 58 1=some 1/\aG prog 58 2=some 2/\aG prog 68 1=some 1/\aG prog 68 2=some 2:=by and_intros<;>kernel_rfl
@[go_sem] theorem T.fieldA_68_3:aG prog 68 3=some 3/\aG prog 68 4=some 4/\aG prog 70 0=some 0/\aG prog 70 1=some 1/\aG prog 73 0=some 0/\aG prog 73 1=some 1/\aG prog 73 2=some 2/\aG prog 75 0=some 0:=by and_intros<;>kernel_rfl
@[go_sem] theorem T.fieldA_75_1:aG prog 75 1=some 1/\aG prog 75 2=some 2/\aG prog 75 3=some 3/\aG prog 75 4=some 4/\aG prog 75 5=some 5/\aG prog 75 6=some 6/\aG prog 75 7=some 7/\aG prog 87 0=some 0:=by and_intros<;>kernel_rfl
@[go_sem] theorem T.fieldA_87_1:aG prog 87 1=some 1/\aG prog 89 0=some 0/\aG prog 89 1=some 1/\aG prog 89 2=some 3/\aG prog 89 3=some 4/\aG prog 94 0=some 0/\aG prog 94 1=some 1/\aG prog 94 2=some 2:=by and_intros<;>kernel_rfl
@[go_sem] theorem T.fieldA_94_3:aG prog 94 3=some 3/\aG prog 99 0=some 0/\aG prog 99 1=some 1/\aG prog 99 2=some 2/\aG prog 99 3=some 3/\aG prog 99 4=some 4/\LG prog 42 0=some (0,false,1)/\yJ prog 206=some .u64:=by and_intros<;>kernel_rfl
@[go_sem] theorem T.intT_244:yJ prog 244=some .u32/\yJ prog 246=some .u64/\yJ prog 265=some .u64/\yJ prog 271=none/\yJ prog 3=some .i64/\yJ prog 407=none/\yJ prog 452=none/\yJ prog 5=some .u8:=by and_intros<;>kernel_rfl
@[go_sem] theorem T.intT_9:yJ prog 9=none/\gu prog 107=false/\gu prog 152=false/\gu prog 22=false/\gu prog 23=false/\gu prog 24=false/\gu prog 25=false/\gu prog 26=false:=by and_intros<;>kernel_rfl
@[go_sem] theorem T.isArr_271:gu prog 271=false/\gu prog 272=true/\gu prog 29=false/\gu prog 30=false/\gu prog 31=false/\gu prog 32=false/\gu prog 33=false/\gu prog 34=false:=by and_intros<;>kernel_rfl
@[go_sem] theorem T.isArr_349:gu prog 349=true/\gu prog 35=false/\gu prog 351=true/\gu prog 36=false/\gu prog 395=true/\gu prog 427=false/\gu prog 443=false/\gu prog 455=true:=by and_intros<;>kernel_rfl
@[go_sem] theorem T.isArr_456:gu prog 456=true/\gu prog 47=false/\gu prog 478=false/\gu prog 484=false/\gu prog 59=false/\gu prog 62=false/\gu prog 65=false/\gu prog 66=false:=by and_intros<;>kernel_rfl
@[go_sem] theorem T.isArr_97:gu prog 97=false/\dV prog 124=false/\dV prog 139=false/\dV prog 143=false/\dV prog 148=false/\dV prog 160=false/\dV prog 168=false/\dV prog 171=false:=by and_intros<;>kernel_rfl
@[go_sem] theorem T.isSlT_174:dV prog 174=false/\dV prog 177=false/\dV prog 206=false/\dV prog 21=false/\dV prog 22=true/\dV prog 23=true/\dV prog 236=false/\dV prog 24=true:=by and_intros<;>kernel_rfl
@[go_sem] theorem T.isSlT_244:dV prog 244=false/\dV prog 246=false/\dV prog 25=true/\dV prog 26=true/\dV prog 265=false/\dV prog 29=true/\dV prog 3=false/\dV prog 30=true:=by and_intros<;>kernel_rfl
@[go_sem] theorem T.isSlT_31:dV prog 31=true/\dV prog 32=true/\dV prog 325=false/\dV prog 33=true/\dV prog 34=true/\dV prog 35=true/\dV prog 36=true/\dV prog 4=false:=by and_intros<;>kernel_rfl
@[go_sem] theorem T.isSlT_407:dV prog 407=false/\dV prog 42=false/\dV prog 43=false/\dV prog 5=false/\dV prog 65=true/\dV prog 73=false/\dV prog 87=false/\dV prog 9=false:=by and_intros<;>kernel_rfl
@[go_sem] theorem T.isSlT_94:dV prog 94=false/\dV prog 97=true/\iD prog 107=1/\iD prog 152=1/\iD prog 22=1/\iD prog 23=1/\iD prog 24=1/\iD prog 25=1:=by and_intros<;>kernel_rfl
@[go_sem] theorem T.lenT_26:iD prog 26=1/\iD prog 271=1/\iD prog 29=1/\iD prog 3=0/\iD prog 30=1/\iD prog 31=1/\iD prog 32=1/\iD prog 33=1:=by and_intros<;>kernel_rfl
@[go_sem] theorem T.lenT_34:iD prog 34=1/\iD prog 35=1/\iD prog 36=1/\iD prog 367=1/\iD prog 427=1/\iD prog 443=1/\iD prog 47=1/\iD prog 478=1:=by and_intros<;>kernel_rfl
@[go_sem] theorem T.lenT_484:iD prog 484=1/\iD prog 59=1/\iD prog 62=1/\iD prog 65=1/\iD prog 66=1/\iD prog 9=2/\iD prog 97=1/\yH prog 127=some (false,.agg [.d (.v (.int .i64 0)),.d (.v (.int .i64 0))]):=by and_intros<;>kernel_rfl
@[go_sem] theorem T.mapT_197:yH prog 197=some (false,.d (.v (.int .i64 0)))/\yH prog 225=some (false,.agg [.d (.v (.int .i64 0)),.d (.v (.int .i64 0)),.d (.v (.bool false)),.d (.v (.int .i64 0)),.d (.v (.nilFunc))])/\yH prog 227=some (false,.d (.v (.bool false)))/\bH prog 124=some ([(0,1),(1,1),(2,2),(4,2)],[.int .i64 0,.int .i64 0,.int .i64 0,.int .i64 0,.int .i64 0,.int .i64 0])/\bH prog 129=some ([(0,1),(1,1)],[.map none,.int .i64 0])/\bH prog 139=some ([(0,1),(1,1)],[.int .i64 0,.int .i64 0])/\bH prog 143=some ([(0,1),(1,1),(2,1),(3,1),(4,1),(5,1),(6,1)],[.int .i64 0,.int .i64 0,.int .i64 0,.int .i64 0,.int .i64 0,.int .i64 0,.int .i64 0])/\bH prog 146=some ([(0,1),(1,1)],[.int .i64 0,.int .i64 0]):=by and_intros<;>kernel_rfl
@[go_sem] theorem T.placesA_148:bH prog 148=some ([(0,1),(1,1),(2,2)],[.int .i64 0,.int .i64 0,.int .i64 0,.int .i64 0])/\bH prog 160=some ([(0,1),(1,1)],[.int .i64 0,.int .i64 0])/\bH prog 168=some ([(0,1),(1,1),(2,1),(3,1),(4,2)],[.int .i64 0,.int .i64 0,.int .i64 0,.bool false,.int .i64 0,.int .i64 0])/\bH prog 171=some ([(0,1),(1,1),(2,2),(4,2)],[.int .i64 0,.string ⟨#[]⟩,.int .i64 0,.int .i64 0,.int .i64 0,.int .i64 0])/\bH prog 174=some ([(0,1),(1,1),(2,1),(3,1),(4,2)],[.int .i64 0,.int .i64 0,.int .i64 0,.bool false,.int .i64 0,.int .i64 0])/\bH prog 177=some ([(0,1),(1,1),(2,1),(3,1),(4,2)],[.int .i64 0,.int .i64 0,.int .i64 0,.int .i64 0,.int .i64 0,.int .i64 0])/\bH prog 189=some ([(0,1),(1,1),(2,1),(3,1),(4,1)],[.int .i64 0,.int .i64 0,.bool false,.int .i64 0,.nilFunc])/\bH prog 194=some ([(0,16),(16,1),(17,5)],[.slice none 0 0,.slice none 0 0,.slice none 0 0,.int .i64 0,.slice none 0 0,.slice none 0 0,.slice none 0 0,.slice none 0 0,.slice none 0 0,.slice none 0 0,.int .i64 0,.slice none 0 0,.slice none 0 0,.slice none 0 0,.slice none 0 0,.int .i64 0,.slice none 0 0,.int .i64 0,.int .i64 0,.int .i64 0,.slice none 0 0,.slice none 0 0]):=by and_intros<;>kernel_rfl
@[go_sem] theorem T.placesA_272:bH prog 272=some ([(0,1),(1,1),(2,1),(3,1),(4,1),(5,1),(6,1),(7,1),(8,1),(9,1),(10,1),(11,1),(12,1),(13,1),(14,1),(15,1),(16,1),(17,1),(18,1),(19,1),(20,1),(21,1),(22,1),(23,1),(24,1)],[.int .u64 0,.int .u64 0,.int .u64 0,.int .u64 0,.int .u64 0,.int .u64 0,.int .u64 0,.int .u64 0,.int .u64 0,.int .u64 0,.int .u64 0,.int .u64 0,.int .u64 0,.int .u64 0,.int .u64 0,.int .u64 0,.int .u64 0,.int .u64 0,.int .u64 0,.int .u64 0,.int .u64 0,.int .u64 0,.int .u64 0,.int .u64 0,.int .u64 0])/\bH prog 28=some ([(0,1),(1,1),(2,1),(3,1),(4,1),(5,1)],[.slice none 0 0,.slice none 0 0,.slice none 0 0,.int .i64 0,.slice none 0 0,.slice none 0 0])/\bH prog 349=some ([(0,1),(1,1),(2,1),(3,1),(4,1),(5,1),(6,1),(7,1),(8,1),(9,1),(10,1),(11,1),(12,1),(13,1),(14,1),(15,1),(16,1),(17,1),(18,1),(19,1),(20,1),(21,1),(22,1),(23,1)],[.int .u64 0,.int .u64 0,.int .u64 0,.int .u64 0,.int .u64 0,.int .u64 0,.int .u64 0,.int .u64 0,.int .u64 0,.int .u64 0,.int .u64 0,.int .u64 0,.int .u64 0,.int .u64 0,.int .u64 0,.int .u64 0,.int .u64 0,.int .u64 0,.int .u64 0,.int .u64 0,.int .u64 0,.int .u64 0,.int .u64 0,.int .u64 0])/\bH prog 351=some ([(0,1),(1,1),(2,1),(3,1),(4,1),(5,1),(6,1),(7,1),(8,1),(9,1),(10,1),(11,1),(12,1),(13,1),(14,1),(15,1),(16,1),(17,1),(18,1),(19,1),(20,1),(21,1),(22,1),(23,1),(24,1)],[.int .i64 0,.int .i64 0,.int .i64 0,.int .i64 0,.int .i64 0,.int .i64 0,.int .i64 0,.int .i64 0,.int .i64 0,.int .i64 0,.int .i64 0,.int .i64 0,.int .i64 0,.int .i64 0,.int .i64 0,.int .i64 0,.int .i64 0,.int .i64 0,.int .i64 0,.int .i64 0,.int .i64 0,.int .i64 0,.int .i64 0,.int .i64 0,.int .i64 0])/\bH prog 369=some ([(0,1),(1,1),(2,1),(3,1),(4,1)],[.int .i64 0,.int .i64 0,.int .i64 0,.bool false,.slice none 0 0])/\bH prog 375=some ([(0,1),(1,1)],[.int .i64 0,.nilFunc])/\bH prog 38=some ([(0,6),(6,1),(7,1),(8,1),(9,1),(10,1),(11,1),(12,1),(13,1),(14,1),(15,1)],[.slice none 0 0,.slice none 0 0,.slice none 0 0,.int .i64 0,.slice none 0 0,.slice none 0 0,.slice none 0 0,.slice none 0 0,.slice none 0 0,.slice none 0 0,.int .i64 0,.slice none 0 0,.slice none 0 0,.slice none 0 0,.slice none 0 0,.int .i64 0])/\bH prog 383=some ([(0,25),(25,1),(26,1)],[.int .u64 0,.int .u64 0,.int .u64 0,.int .u64 0,.int .u64 0,.int .u64 0,.int .u64 0,.int .u64 0,.int .u64 0,.int .u64 0,.int .u64 0,.int .u64 0,.int .u64 0,.int .u64 0,.int .u64 0,.int .u64 0,.int .u64 0,.int .u64 0,.int .u64 0,.int .u64 0,.int .u64 0,.int .u64 0,.int .u64 0,.int .u64 0,.int .u64 0,.string ⟨#[]⟩,.int .i64 0]):=by and_intros<;>kernel_rfl
@[go_sem] theorem T.placesA_395:bH prog 395=some ([(0,1),(1,1),(2,1),(3,1),(4,1)],[.int .u64 0,.int .u64 0,.int .u64 0,.int .u64 0,.int .u64 0])/\bH prog 42=some ([(0,1),(1,1)],[.int .i64 0,.int .i64 0])/\bH prog 420=some ([(0,1),(1,1),(2,1),(3,1),(4,1),(5,1),(6,1),(7,1),(8,1),(9,1),(10,1),(11,1),(12,1),(13,1),(14,1),(15,1),(16,1),(17,1),(18,1),(19,1)],[.int .u64 0,.int .u64 0,.int .u64 0,.int .u64 0,.int .u64 0,.int .u64 0,.int .u64 0,.int .u64 0,.int .u64 0,.int .u64 0,.int .u64 0,.int .u64 0,.int .u64 0,.int .u64 0,.int .u64 0,.int .u64 0,.int .u64 0,.int .u64 0,.int .u64 0,.int .u64 0])/\bH prog 430=some ([(0,1),(1,1),(2,1),(3,1)],[.int .i64 0,.int .i64 0,.int .i64 0,.int .i64 0])/\bH prog 434=some ([(0,4),(4,1)],[.int .i64 0,.int .i64 0,.int .i64 0,.int .i64 0,.int .i64 0])/\bH prog 448=some ([(0,1),(1,1)],[.nilFunc,.nilFunc])/\bH prog 455=some ([(0,1),(1,1),(2,1),(3,1),(4,1),(5,1),(6,1),(7,1),(8,1),(9,1),(10,1),(11,1),(12,1),(13,1),(14,1),(15,1),(16,1),(17,1),(18,1),(19,1),(20,1),(21,1),(22,1),(23,1),(24,1),(25,1),(26,1),(27,1),(28,1),(29,1),(30,1),(31,1)],[.int .u8 0,.int .u8 0,.int .u8 0,.int .u8 0,.int .u8 0,.int .u8 0,.int .u8 0,.int .u8 0,.int .u8 0,.int .u8 0,.int .u8 0,.int .u8 0,.int .u8 0,.int .u8 0,.int .u8 0,.int .u8 0,.int .u8 0,.int .u8 0,.int .u8 0,.int .u8 0,.int .u8 0,.int .u8 0,.int .u8 0,.int .u8 0,.int .u8 0,.int .u8 0,.int .u8 0,.int .u8 0,.int .u8 0,.int .u8 0,.int .u8 0,.int .u8 0])/\bH prog 456=some ([(0,1),(1,1),(2,1),(3,1),(4,1),(5,1),(6,1),(7,1),(8,1),(9,1),(10,1),(11,1),(12,1),(13,1),(14,1),(15,1),(16,1),(17,1),(18,1),(19,1),(20,1),(21,1),(22,1),(23,1),(24,1),(25,1),(26,1),(27,1),(28,1),(29,1),(30,1),(31,1),(32,1),(33,1),(34,1),(35,1),(36,1),(37,1),(38,1),(39,1),(40,1),(41,1),(42,1),(43,1),(44,1),(45,1),(46,1),(47,1),(48,1),(49,1),(50,1),(51,1),(52,1),(53,1),(54,1),(55,1),(56,1),(57,1),(58,1),(59,1),(60,1),(61,1),(62,1),(63,1)],[.int .u8 0,.int .u8 0,.int .u8 0,.int .u8 0,.int .u8 0,.int .u8 0,.int .u8 0,.int .u8 0,.int .u8 0,.int .u8 0,.int .u8 0,.int .u8 0,.int .u8 0,.int .u8 0,.int .u8 0,.int .u8 0,.int .u8 0,.int .u8 0,.int .u8 0,.int .u8 0,.int .u8 0,.int .u8 0,.int .u8 0,.int .u8 0,.int .u8 0,.int .u8 0,.int .u8 0,.int .u8 0,.int .u8 0,.int .u8 0,.int .u8 0,.int .u8 0,.int .u8 0,.int .u8 0,.int .u8 0,.int .u8 0,.int .u8 0,.int .u8 0,.int .u8 0,.int .u8 0,.int .u8 0,.int .u8 0,.int .u8 0,.int .u8 0,.int .u8 0,.int .u8 0,.int .u8 0,.int .u8 0,.int .u8 0,.int .u8 0,.int .u8 0,.int .u8 0,.int .u8 0,.int .u8 0,.int .u8 0,.int .u8 0,.int .u8 0,.int .u8 0,.int .u8 0,.int .u8 0,.int .u8 0,.int .u8 0,.int .u8 0,.int .u8 0]):=by and_intros<;>kernel_rfl
@[go_sem] theorem T.placesA_498:bH prog 498=some ([(0,1),(1,1),(2,1),(3,1),(4,1),(5,1),(6,1),(7,1),(8,1),(9,1),(10,1),(11,1)],[.int .i64 0,.int .i64 0,.int .i64 0,.int .i64 0,.int .i64 0,.int .i64 0,.int .i64 0,.int .i64 0,.int .i64 0,.int .i64 0,.int .i64 0,.int .i64 0])/\bH prog 58=some ([(0,1),(1,1),(2,1)],[.int .i64 0,.int .i64 0,.int .i64 0])/\bH prog 68=some ([(0,1),(1,1),(2,1),(3,1),(4,1)],[.int .i64 0,.int .i64 0,.int .i64 0,.slice none 0 0,.slice none 0 0])/\bH prog 70=some ([(0,1),(1,1)],[.int .i64 0,.slice none 0 0])/\bH prog 73=some ([(0,1),(1,1),(2,1)],[.int .i64 0,.int .i64 0,.int .i64 0])/\bH prog 75=some ([(0,1),(1,1),(2,1),(3,1),(4,1),(5,1),(6,1),(7,1)],[.int .i64 0,.int .i64 0,.int .i64 0,.int .i64 0,.int .i64 0,.int .i64 0,.slice none 0 0,.slice none 0 0])/\bH prog 87=some ([(0,1),(1,1)],[.int .i64 0,.int .i64 0])/\bH prog 89=some ([(0,1),(1,2),(3,1),(4,1)],[.int .i64 0,.int .i64 0,.int .i64 0,.int .i64 0,.slice none 0 0]):=by and_intros<;>kernel_rfl
@[go_sem] theorem T.placesA_94:bH prog 94=some ([(0,1),(1,1),(2,1),(3,1)],[.int .i64 0,.int .i64 0,.int .i64 0,.int .i64 0])/\bH prog 99=some ([(0,1),(1,1),(2,1),(3,1),(4,1)],[.int .i64 0,.int .i64 0,.int .i64 0,.int .i64 0,.slice none 0 0])/\ptrT prog 325=true/\ptrT prog 407=true/\BL prog 107=some (43,1)/\BL prog 152=some (42,2)/\BL prog 22=some (89,5)/\BL prog 23=some (168,6):=by and_intros<;>kernel_rfl
@[go_sem] theorem T.slA_24:BL prog 24=some (171,6)/\BL prog 25=some (174,6)/\BL prog 26=some (177,6)/\BL prog 271=some (5,1)/\BL prog 29=some (99,5)/\BL prog 30=some (94,4)/\BL prog 31=some (124,6)/\BL prog 32=some (143,7):=by and_intros<;>kernel_rfl
@[go_sem] theorem T.slA_33:BL prog 33=some (148,4)/\BL prog 34=some (75,8)/\BL prog 35=some (160,2)/\BL prog 36=some (73,3)/\BL prog 427=some (430,4)/\BL prog 443=some (448,2)/\BL prog 47=some (70,2)/\BL prog 478=some (146,2):=by and_intros<;>kernel_rfl
@[go_sem] theorem T.slA_484:BL prog 484=some (174,6)/\BL prog 59=some (58,3)/\BL prog 62=some (68,5)/\BL prog 65=some (3,1)/\BL prog 66=some (9,1)/\BL prog 97=some (139,2)/\yZ prog 107=some (43,1,8,[.int .i64 0])/\yZ prog 152=some (42,2,16,[.int .i64 0,.int .i64 0]):=by and_intros<;>kernel_rfl
@[go_sem] theorem T.slB_22:yZ prog 22=some (89,5,56,[.int .i64 0,.int .i64 0,.int .i64 0,.int .i64 0,.slice none 0 0])/\yZ prog 23=some (168,6,48,[.int .i64 0,.int .i64 0,.int .i64 0,.bool false,.int .i64 0,.int .i64 0])/\yZ prog 24=some (171,6,56,[.int .i64 0,.string ⟨#[]⟩,.int .i64 0,.int .i64 0,.int .i64 0,.int .i64 0])/\yZ prog 25=some (174,6,48,[.int .i64 0,.int .i64 0,.int .i64 0,.bool false,.int .i64 0,.int .i64 0])/\yZ prog 26=some (177,6,48,[.int .i64 0,.int .i64 0,.int .i64 0,.int .i64 0,.int .i64 0,.int .i64 0])/\yZ prog 271=some (5,1,1,[.int .u8 0])/\yZ prog 29=some (99,5,56,[.int .i64 0,.int .i64 0,.int .i64 0,.int .i64 0,.slice none 0 0])/\yZ prog 30=some (94,4,32,[.int .i64 0,.int .i64 0,.int .i64 0,.int .i64 0]):=by and_intros<;>kernel_rfl
@[go_sem] theorem T.slB_31:yZ prog 31=some (124,6,48,[.int .i64 0,.int .i64 0,.int .i64 0,.int .i64 0,.int .i64 0,.int .i64 0])/\yZ prog 32=some (143,7,56,[.int .i64 0,.int .i64 0,.int .i64 0,.int .i64 0,.int .i64 0,.int .i64 0,.int .i64 0])/\yZ prog 33=some (148,4,32,[.int .i64 0,.int .i64 0,.int .i64 0,.int .i64 0])/\yZ prog 34=some (75,8,96,[.int .i64 0,.int .i64 0,.int .i64 0,.int .i64 0,.int .i64 0,.int .i64 0,.slice none 0 0,.slice none 0 0])/\yZ prog 35=some (160,2,16,[.int .i64 0,.int .i64 0])/\yZ prog 36=some (73,3,24,[.int .i64 0,.int .i64 0,.int .i64 0])/\yZ prog 367=some (434,5,40,[.int .i64 0,.int .i64 0,.int .i64 0,.int .i64 0,.int .i64 0])/\yZ prog 427=some (430,4,32,[.int .i64 0,.int .i64 0,.int .i64 0,.int .i64 0]):=by and_intros<;>kernel_rfl
@[go_sem] theorem T.slB_443:yZ prog 443=some (448,2,16,[.nilFunc,.nilFunc])/\yZ prog 47=some (70,2,32,[.int .i64 0,.slice none 0 0])/\yZ prog 478=some (146,2,16,[.int .i64 0,.int .i64 0])/\yZ prog 59=some (58,3,24,[.int .i64 0,.int .i64 0,.int .i64 0])/\yZ prog 62=some (68,5,72,[.int .i64 0,.int .i64 0,.int .i64 0,.slice none 0 0,.slice none 0 0])/\yZ prog 65=some (3,1,8,[.int .i64 0])/\yZ prog 66=some (9,1,16,[.string ⟨#[]⟩])/\yZ prog 97=some (139,2,16,[.int .i64 0,.int .i64 0]):=by and_intros<;>kernel_rfl
@[go_sem] theorem T.strT_5:yF prog 5=false/\yF prog 9=true/\gQ prog 124=some (true,6)/\gQ prog 125=some (false,1)/\gQ prog 127=some (false,1)/\gQ prog 139=some (true,2)/\gQ prog 143=some (true,7)/\gQ prog 146=some (true,2):=by and_intros<;>kernel_rfl
@[go_sem] theorem T.tyA_148:gQ prog 148=some (true,4)/\gQ prog 160=some (true,2)/\gQ prog 168=some (true,6)/\gQ prog 171=some (true,6)/\gQ prog 174=some (true,6)/\gQ prog 177=some (true,6)/\gQ prog 187=some (false,1)/\gQ prog 189=some (true,5):=by and_intros<;>kernel_rfl
@[go_sem] theorem T.tyA_192:gQ prog 192=some (false,1)/\gQ prog 197=some (false,1)/\gQ prog 22=some (false,1)/\gQ prog 228=some (false,1)/\gQ prog 23=some (false,1)/\gQ prog 24=some (false,1)/\gQ prog 246=some (false,1)/\gQ prog 249=some (false,1):=by and_intros<;>kernel_rfl
@[go_sem] theorem T.tyA_25:gQ prog 25=some (false,1)/\gQ prog 26=some (false,1)/\gQ prog 265=some (false,1)/\gQ prog 271=some (false,1)/\gQ prog 272=some (true,25)/\gQ prog 28=some (true,6)/\gQ prog 29=some (false,1)/\gQ prog 3=some (false,1):=by and_intros<;>kernel_rfl
@[go_sem] theorem T.tyA_30:gQ prog 30=some (false,1)/\gQ prog 31=some (false,1)/\gQ prog 32=some (false,1)/\gQ prog 33=some (false,1)/\gQ prog 34=some (false,1)/\gQ prog 349=some (true,24)/\gQ prog 35=some (false,1)/\gQ prog 351=some (true,25):=by and_intros<;>kernel_rfl
@[go_sem] theorem T.tyA_36:gQ prog 36=some (false,1)/\gQ prog 367=some (false,1)/\gQ prog 369=some (true,5)/\gQ prog 375=some (true,2)/\gQ prog 38=some (true,16)/\gQ prog 395=some (true,5)/\gQ prog 4=some (false,1)/\gQ prog 407=some (false,1):=by and_intros<;>kernel_rfl
@[go_sem] theorem T.tyA_42:gQ prog 42=some (true,2)/\gQ prog 420=some (true,20)/\gQ prog 427=some (false,1)/\gQ prog 43=some (false,1)/\gQ prog 430=some (true,4)/\gQ prog 445=some (false,1)/\gQ prog 448=some (true,2)/\gQ prog 455=some (true,32):=by and_intros<;>kernel_rfl
@[go_sem] theorem T.tyA_456:gQ prog 456=some (true,64)/\gQ prog 478=some (false,1)/\gQ prog 498=some (true,12)/\gQ prog 5=some (false,1)/\gQ prog 58=some (true,3)/\gQ prog 59=some (false,1)/\gQ prog 65=some (false,1)/\gQ prog 66=some (false,1):=by and_intros<;>kernel_rfl
@[go_sem] theorem T.tyA_68:gQ prog 68=some (true,5)/\gQ prog 70=some (true,2)/\gQ prog 73=some (true,3)/\gQ prog 75=some (true,8)/\gQ prog 87=some (true,2)/\gQ prog 89=some (true,5)/\gQ prog 9=some (false,1)/\gQ prog 94=some (true,4):=by and_intros<;>kernel_rfl
@[go_sem] theorem T.tyA_97:gQ prog 97=some (false,1)/\gQ prog 99=some (true,5)/\dJ prog 124=some [.int .i64 0,.int .i64 0,.int .i64 0,.int .i64 0,.int .i64 0,.int .i64 0]/\dJ prog 125=some [.nilFunc]/\dJ prog 139=some [.int .i64 0,.int .i64 0]/\dJ prog 143=some [.int .i64 0,.int .i64 0,.int .i64 0,.int .i64 0,.int .i64 0,.int .i64 0,.int .i64 0]/\dJ prog 146=some [.int .i64 0,.int .i64 0]/\dJ prog 148=some [.int .i64 0,.int .i64 0,.int .i64 0,.int .i64 0]:=by and_intros<;>kernel_rfl
@[go_sem] theorem T.zeroA_160:dJ prog 160=some [.int .i64 0,.int .i64 0]/\dJ prog 168=some [.int .i64 0,.int .i64 0,.int .i64 0,.bool false,.int .i64 0,.int .i64 0]/\dJ prog 171=some [.int .i64 0,.string ⟨#[]⟩,.int .i64 0,.int .i64 0,.int .i64 0,.int .i64 0]/\dJ prog 174=some [.int .i64 0,.int .i64 0,.int .i64 0,.bool false,.int .i64 0,.int .i64 0]/\dJ prog 177=some [.int .i64 0,.int .i64 0,.int .i64 0,.int .i64 0,.int .i64 0,.int .i64 0]/\dJ prog 189=some [.int .i64 0,.int .i64 0,.bool false,.int .i64 0,.nilFunc]/\dJ prog 197=some [.map none]/\dJ prog 23=some [.slice none 0 0]:=by and_intros<;>kernel_rfl
@[go_sem] theorem T.zeroA_249:dJ prog 249=some [.nilFunc]/\dJ prog 265=some [.int .u64 0]/\dJ prog 272=some [.int .u64 0,.int .u64 0,.int .u64 0,.int .u64 0,.int .u64 0,.int .u64 0,.int .u64 0,.int .u64 0,.int .u64 0,.int .u64 0,.int .u64 0,.int .u64 0,.int .u64 0,.int .u64 0,.int .u64 0,.int .u64 0,.int .u64 0,.int .u64 0,.int .u64 0,.int .u64 0,.int .u64 0,.int .u64 0,.int .u64 0,.int .u64 0,.int .u64 0]/\dJ prog 28=some [.slice none 0 0,.slice none 0 0,.slice none 0 0,.int .i64 0,.slice none 0 0,.slice none 0 0]/\dJ prog 3=some [.int .i64 0]/\dJ prog 349=some [.int .u64 0,.int .u64 0,.int .u64 0,.int .u64 0,.int .u64 0,.int .u64 0,.int .u64 0,.int .u64 0,.int .u64 0,.int .u64 0,.int .u64 0,.int .u64 0,.int .u64 0,.int .u64 0,.int .u64 0,.int .u64 0,.int .u64 0,.int .u64 0,.int .u64 0,.int .u64 0,.int .u64 0,.int .u64 0,.int .u64 0,.int .u64 0]/\dJ prog 351=some [.int .i64 0,.int .i64 0,.int .i64 0,.int .i64 0,.int .i64 0,.int .i64 0,.int .i64 0,.int .i64 0,.int .i64 0,.int .i64 0,.int .i64 0,.int .i64 0,.int .i64 0,.int .i64 0,.int .i64 0,.int .i64 0,.int .i64 0,.int .i64 0,.int .i64 0,.int .i64 0,.int .i64 0,.int .i64 0,.int .i64 0,.int .i64 0,.int .i64 0]/\dJ prog 369=some [.int .i64 0,.int .i64 0,.int .i64 0,.bool false,.slice none 0 0]:=by and_intros<;>kernel_rfl
@[go_sem] theorem T.zeroA_375:dJ prog 375=some [.int .i64 0,.nilFunc]/\dJ prog 38=some [.slice none 0 0,.slice none 0 0,.slice none 0 0,.int .i64 0,.slice none 0 0,.slice none 0 0,.slice none 0 0,.slice none 0 0,.slice none 0 0,.slice none 0 0,.int .i64 0,.slice none 0 0,.slice none 0 0,.slice none 0 0,.slice none 0 0,.int .i64 0]/\dJ prog 395=some [.int .u64 0,.int .u64 0,.int .u64 0,.int .u64 0,.int .u64 0]/\dJ prog 409=some [.pointer none,.slice none 0 0]/\dJ prog 42=some [.int .i64 0,.int .i64 0]/\dJ prog 427=some [.slice none 0 0]/\dJ prog 43=some [.int .i64 0]/\dJ prog 430=some [.int .i64 0,.int .i64 0,.int .i64 0,.int .i64 0]:=by and_intros<;>kernel_rfl
@[go_sem] theorem T.zeroA_448:dJ prog 448=some [.nilFunc,.nilFunc]/\dJ prog 478=some [.slice none 0 0]/\dJ prog 498=some [.int .i64 0,.int .i64 0,.int .i64 0,.int .i64 0,.int .i64 0,.int .i64 0,.int .i64 0,.int .i64 0,.int .i64 0,.int .i64 0,.int .i64 0,.int .i64 0]/\dJ prog 58=some [.int .i64 0,.int .i64 0,.int .i64 0]/\dJ prog 65=some [.slice none 0 0]/\dJ prog 68=some [.int .i64 0,.int .i64 0,.int .i64 0,.slice none 0 0,.slice none 0 0]/\dJ prog 70=some [.int .i64 0,.slice none 0 0]/\dJ prog 73=some [.int .i64 0,.int .i64 0,.int .i64 0]:=by and_intros<;>kernel_rfl
@[go_sem] theorem T.zeroA_75:dJ prog 75=some [.int .i64 0,.int .i64 0,.int .i64 0,.int .i64 0,.int .i64 0,.int .i64 0,.slice none 0 0,.slice none 0 0]/\dJ prog 87=some [.int .i64 0,.int .i64 0]/\dJ prog 89=some [.int .i64 0,.int .i64 0,.int .i64 0,.int .i64 0,.slice none 0 0]/\dJ prog 94=some [.int .i64 0,.int .i64 0,.int .i64 0,.int .i64 0]/\dJ prog 99=some [.int .i64 0,.int .i64 0,.int .i64 0,.int .i64 0,.slice none 0 0]:=by and_intros<;>kernel_rfl
theorem T.en72:dO prog 72=true:=by kernel_rfl
theorem T.en129:dO prog 129=true:=by kernel_rfl
theorem T.en192:dO prog 192=true:=by kernel_rfl
theorem T.en243:dO prog 243=true:=by kernel_rfl
theorem T.en351:dO prog 351=true:=by kernel_rfl
theorem T.en352:dO prog 352=true:=by kernel_rfl
theorem T.en353:dO prog 353=true:=by kernel_rfl
theorem T.en356:dO prog 356=true:=by kernel_rfl
theorem T.mixed:prog.follows .mixedOrders=true:=by kernel_rfl
attribute [go_sem] ntmps3 ntmps4 ntmps5 ntmps6 ntmps7 ntmps8 ntmps9 ntmps10 ntmps11 ntmps12 ntmps13 ntmps14 ntmps15 ntmps16 ntmps17 ntmps18 ntmps19 ntmps20 ntmps21 ntmps22 ntmps23 ntmps24 ntmps25 ntmps26 ntmps27 ntmps28 ntmps29 ntmps30 ntmps31 ntmps32 ntmps33 ntmps34 ntmps35 ntmps36 ntmps37 ntmps38 ntmps39 ntmps40 ntmps41 ntmps42 ntmps43 ntmps44 ntmps45 ntmps46 ntmps47 ntmps48 ntmps49 ntmps50 ntmps51 ntmps52 ntmps53 ntmps54 ntmps55 ntmps56 ntmps57 ntmps58 ntmps59 ntmps60 ntmps61 ntmps62 ntmps63 ntmps64 ntmps65 ntmps66 ntmps67 ntmps68 ntmps69 ntmps70 ntmps71 ntmps72 ntmps73 ntmps74 ntmps75 ntmps76 ntmps77 ntmps78 ntmps79 ntmps80 ntmps81 ntmps82 ntmps83 ntmps84 ntmps85 ntmps86 ntmps87 ntmps88 ntmps89 ntmps90 ntmps91 ntmps92 ntmps93 ntmps94 ntmps95 ntmps96 ntmps97 ntmps98 ntmps99 ntmps100 ntmps101 ntmps102 ntmps103 ntmps104 ntmps105 ntmps106 ntmps107 ntmps108 ntmps109 ntmps110 ntmps111 ntmps112 ntmps113 ntmps114 ntmps115 ntmps116 ntmps117 ntmps118 ntmps119 ntmps120 ntmps121 ntmps122 ntmps123 ntmps124 ntmps125 ntmps126 ntmps127 ntmps128 ntmps130 ntmps131 ntmps132 ntmps133 ntmps134 ntmps135 ntmps136 ntmps137 ntmps138 ntmps139 ntmps140 ntmps141 ntmps142 ntmps143 ntmps144 ntmps145 ntmps146 ntmps147 ntmps148 ntmps149 ntmps150 ntmps151 ntmps152 ntmps153 ntmps154 ntmps155 ntmps156 ntmps157 ntmps158 ntmps159 ntmps160 ntmps161 ntmps162 ntmps163 ntmps164 ntmps165 ntmps166 ntmps167 ntmps168 ntmps169 ntmps170 ntmps171 ntmps172 ntmps173 ntmps174 ntmps175 ntmps176 ntmps177 ntmps178 ntmps179 ntmps190 ntmps191 ntmps193 ntmps194 ntmps195 ntmps196 ntmps197 ntmps198 ntmps199 ntmps200 ntmps201 ntmps202 ntmps203 ntmps204 ntmps205 ntmps206 ntmps207 ntmps208 ntmps209 ntmps210 ntmps211 ntmps212 ntmps213 ntmps214 ntmps215 ntmps216 ntmps217 ntmps218 ntmps219 ntmps220 ntmps221 ntmps222 ntmps223 ntmps224 ntmps225 ntmps226 ntmps227 ntmps228 ntmps229 ntmps230 ntmps231 ntmps232 ntmps233 ntmps234 ntmps235 ntmps236 ntmps237 ntmps238 ntmps239 ntmps240 ntmps241 ntmps242 ntmps244 ntmps245 ntmps246 ntmps247 ntmps253 ntmps255 ntmps256 ntmps257 ntmps258 ntmps259 ntmps260 ntmps261 ntmps262 ntmps263 ntmps264 ntmps265 ntmps266 ntmps267 ntmps268 ntmps269 ntmps270 ntmps271 ntmps272 ntmps273 ntmps274 ntmps275 ntmps276 ntmps277 ntmps278 ntmps279 ntmps280 ntmps281 ntmps282 ntmps283 ntmps284 ntmps285 ntmps286 ntmps287 ntmps288 ntmps289 ntmps290 ntmps291 ntmps292 ntmps293 ntmps294 ntmps295 ntmps296 ntmps297 ntmps298 ntmps299 ntmps300 ntmps301 ntmps302 ntmps303 ntmps304 ntmps305 ntmps306 ntmps307 ntmps308 ntmps309 ntmps310 ntmps311 ntmps312 ntmps313 ntmps315 ntmps318 ntmps319 ntmps320 ntmps321 ntmps322 ntmps323 ntmps324 ntmps325 ntmps326 ntmps329 ntmps330 ntmps331 ntmps332 ntmps333 ntmps334 ntmps335 ntmps336 ntmps337 ntmps338 ntmps339 ntmps340 ntmps341 ntmps342 ntmps343 ntmps344 ntmps345 ntmps346 ntmps347 ntmps348 ntmps349 ntmps350 ntmps354 ntmps355 ntmps369 ntmps370 ntmps371 ntmps373 ntmps374 ntmps375 ntmps376 ntmps377 ntmps378 ntmps379 ntmps380 ntmps381 ntmps384 ntmps398 ntmps402 ntmps403 ntmps404 ntmps405 ntmps406 ntmps409 ntmps410 ntmps411 ntmps421 ntmps422 ntmps423 ntmps424 ntmps425 ntmps430 ntmps434 ntmps435 ntmps436 ntmps437 ntmps438 ntmps439 ntmps440 ntmps441 ntmps442 ntmps443 ntmps444 ntmps445 ntmps446 ntmps447 ntmps448 ntmps451 ntmps452 ntmps453 ntmps454 ntmps455 ntmps456 ntmps457 ntmps458 ntmps459 ntmps460 ntmps461 ntmps462 ntmps463 ntmps464 ntmps465 ntmps466 ntmps467 ntmps468 ntmps469 ntmps470 ntmps471 ntmps472 ntmps473 ntmps474 ntmps476 ntmps477 ntmps478 ntmps479 ntmps480 ntmps481 results3 results4 results5 results6 results7 results8 results9 results10 results11 results12 results13 results14 results15 results16 results17 results18 results19 results20 results21 results22 results23 results24 results25 results26 results27 results28 results29 results30 results31 results32 results33 results34 results35 results36 results37 results38 results39 results40 results41 results42 results43 results44 results45 results46 results47 results48 results49 results50 results51 results52 results53 results54 results55 results56 results57 results58 results59 results60 results61 results62 results63 results64 results65 results66 results67 results68 results69 results70 results71 results73 results74 results75 results76 results77 results78 results79 results80 results81 results82 results83 results84 results85 results86 results87 results88 results89 results90 results91 results92 results93 results94 results95 results96 results97 results98 results99 results100 results101 results102 results103 results104 results105 results106 results107 results108 results109 results110 results111 results112 results113 results114 results115 results116 results117 results118 results119 results120 results121 results122 results123 results124 results125 results126 results127 results128 results130 results131 results132 results133 results134 results135 results136 results137 results138 results139 results140 results141 results142 results143 results144 results145 results146 results147 results148 results149 results150 results151 results152 results153 results154 results155 results156 results157 results158 results159 results160 results161 results162 results163 results164 results165 results166 results167 results168 results169 results170 results171 results172 results173 results174 results175 results176 results177 results178 results190 results191 results193 results194 results195 results196 results197 results198 results199 results200 results201 results202 results203 results204 results205 results206 results207 results208 results209 results210 results211 results212 results213 results214 results215 results216 results217 results218 results219 results220 results221 results222 results223 results224 results225 results226 results227 results228 results229 results230 results231 results232 results233 results234 results235 results236 results237 results238 results239 results240 results241 results242 results244 results245 results246 results247 results253 results255 results256 results257 results258 results259 results260 results261 results262 results263 results264 results265 results266 results267 results268 results269 results270 results271 results272 results273 results274 results275 results276 results277 results278 results279 results280 results281 results282 results283 results284 results285 results286 results287 results288 results289 results290 results291 results292 results293 results294 results295 results296 results297 results298 results299 results300 results301 results302 results303 results304 results305 results306 results307 results308 results309 results310 results311 results312 results313 results315 results318 results319 results320 results321 results322 results323 results324 results325 results326 results329 results330 results331 results332 results333 results334 results335 results336 results337 results338 results339 results340 results341 results342 results343 results344 results345 results346 results347 results348 results349 results350 results354 results355 results369 results370 results371 results373 results374 results375 results376 results377 results378 results379 results380 results381 results384 results398 results402 results403 results404 results405 results406 results409 results410 results411 results421 results422 results423 results424 results425 results430 results434 results435 results436 results437 results438 results439 results440 results441 results442 results443 results444 results445 results446 results447 results448 results451 results452 results453 results454 results455 results456 results457 results458 results459 results460 results461 results462 results463 results464 results465 results466 results467 results468 results469 results470 results471 results472 results473 results476 results477 results478 results479 results480
theorem T.dr{Q:Exit->St->Prop}{s:St}{id:Nat}{ops:List Oper}(m:Nat)(h: ∀K:St->Prop,(∀s',Q .normal s'->K s')->bI prog true ops (ops.take m) s (Go.aU.Rest prog false ops (ops.drop m) K))(hok:(dW ops m&&Nat.ble m ops.length)=true:=by kernel_rfl):dY prog (.region id ops.toArray true) Q s:=V5 m T.mixed hok h
variable (σ : List aC)
structure Span where
 From:Int
 Until:Int
structure Rule where
 ID:Int
 Class:Int
 jg:Int
 LW:Bool
 In:Span
instance:Inhabited Rule:=⟨⟨0,0,0,false,⟨0,0⟩⟩⟩
def Span.enc(s:Span):List D:=[I s.From,I s.Until]
def Rule.enc(r:Rule):List D:=[I r.ID,I r.Class,I r.jg,B r.LW,I r.In.From,I r.In.Until]
attribute [go_sem] Span.enc Rule.enc
def qW(s:Span):Bool:=decide (0<=s.From)&&decide (s.From<s.Until)&&decide (s.Until<=1048576)
theorem Lc(s:Span):ay prog 298 [.agg (s.enc.map .d)] σ (.d (B (qW s))):=by
 refine ay.bs true func298 fun hwf=> ?_;refine aj ?_;simp[go_sem,qW]<;>omega
def formed(r:Rule):Bool:=decide (1<=r.ID)&&decide (r.ID<=1073741824)&&decide (1<=r.Class)&&decide (r.Class<=999)&&decide (0<=r.jg)&&decide (r.jg<=200)&&qW r.In
theorem GN(r:Rule):ay prog 214 [.agg (r.enc.map .d)] σ (.d (B (formed r))):=by
 refine ay.bs true func214 fun hwf=> ?_;refine fA.mk (Lc _ r.In) (sm ?_);refine aj ?_;simp[go_sem,formed]<;>omega
theorem Gj(c:Option Nat)(n:Nat)(g:Nat->Rule)(f:FuncId)(cap:List AV)(p:Rule->Bool)(hn:n<1000000000)(hf: ∀i,i<n->ay prog f (.agg ((g i).enc.map .d)::cap) σ (.d (B (p (g i))))):ay prog 299 [.d (SL c 6 Rule.enc n g),.clo (.func f) [] cap] σ (.d (I (idxFrom p (lst n g) 0))):=by
 refine ay.bs true func299 fun hwf=> ?_;refine gy (α:=Nat) true [0,1,7,8] (fun i=>[(8,.d (I i))]) (fun i=>_) (fun i=>i<=n/\idxFrom p (lst n g) 0=idxFrom p ((lst n g).drop i) i) (fun i=>n-i) 0 ?_;rintro i ⟨hi,hx⟩;simp[go_sem];refine aH [0,1,7,8] ?_ ?_<;>intro c0 d0
 ·rw[fE d0,idxFrom] at hx;simp[go_sem];repeat refine⟨by omega,?_⟩
  refine aW.mk (hf i d0) (sm ?_);refine aH [0,1,5,7,8] ?_ ?_<;>intro c1 d1
  ·simp[go_sem];refine aj ?_;simp[go_sem,hx,c1]<;>omega
  ·simp(disch:=first|omega|simp) [go_sem,aA];refine dB (i+1) ⟨by omega,by rw[hx,c1];simp⟩ (h:=by simp[go_sem]<;>omega)
 ·rw[fF d0,idxFrom] at hx;simp[go_sem];refine go true (sm ?_);refine aj ?_;simp[go_sem,hx]<;>omega
theorem KZ(c:Option Nat)(n:Nat)(g:Nat->Rule)(f:FuncId)(cap:List AV)(p:Rule->Bool)(hn:n<1000000000)(hf: ∀i,i<n->ay prog f (.agg ((g i).enc.map .d)::cap) σ (.d (B (p (g i))))):ay prog 215 [.d (SL c 6 Rule.enc n g),.clo (.func f) [] cap] σ (.d (B ((lst n g).any p))):=by
 refine ay.bs true func215 fun hwf=> ?_;refine aW.mk (Gj _ c n g f cap p hn hf) (sm ?_);refine aj ?_;simp[go_sem,lC]<;>omega
def clash(r o:Rule):Bool:=(o.Class==r.Class)&&decide (o.In.From<r.In.Until)&&decide (r.In.From<o.In.Until)
theorem EJ(τ:List aC)(r o:Rule):ay prog 216 [.agg (o.enc.map .d),.ptr τ.length 0] (τ++ .var (r.enc.map .d)::σ) (.d (B (clash r o))):=by
 refine ay.bs true func216 fun hwf=> ?_;refine aj ?_;simp[go_sem,clash]<;>omega
def QZ(g:Nat->Rule)(i:Nat):Nat->Int
 |0=>0
 |k+1=>if formed (g i)=false then 2 else if(decide (0<i)&&decide ((g i).ID<=(g (i-1)).ID))=true then 5 else if(lst i g).any (clash (g i))=true then 6 else QZ g (i+1) k
def check(n:Nat)(g:Nat->Rule):Int:=if 64<n then 8 else QZ g 0 n
theorem wo(c:Option Nat)(n:Nat)(g:Nat->Rule)(hn:n<1000000000):ay prog 155 [.d (SL c 6 Rule.enc n g)] σ (.d (I (check n g))):=by
 refine ay.bs true func155 fun hwf=> ?_;refine aH [0] ?_ ?_<;>intro c0 d0
 ·simp[go_sem];refine aj ?_;simp[go_sem,check]<;>omega
 ·simp[go_sem];refine gy (α:=Nat) true [0,8,9,10] (fun i=>[(10,.d (I i))]) (fun i=>_) (fun i=>i<=n/\QZ g 0 n=QZ g i (n-i)) (fun i=>n-i) 0 ?_;rintro i ⟨hi,hx⟩;simp[go_sem];refine aH [0,8,9,10] ?_ ?_<;>intro c1 d1
  ·obtain⟨k,hk⟩: ∃k,n-i=k+1:=⟨n-i-1,by omega⟩;have hk':n-(i+1)=k:=by omega
   rw[hk,QZ] at hx;simp[go_sem];repeat refine⟨by omega,?_⟩
   refine aW.mk (GN _ _) ?_;simp[go_sem];refine aH [0,3,4,8,9,10] ?_ ?_<;>intro c2 d2
   ·simp[go_sem];refine aj ?_;simp[go_sem,check,hx,d2]<;>omega
   ·simp[go_sem];refine T.dr 14 fun K hK=> ?_;simp[go_sem,aZ (i:=i) (by omega)];repeat refine⟨by omega,?_⟩
    refine hK _ ?_;refine go true ?_;simp[go_sem];refine aH [0,3,4,8,9,10] ?_ ?_<;>intro c3 d3
    ·simp[go_sem];refine aj ?_;simp[go_sem,check,hx,d2,d3]<;>omega
    ·simp[go_sem,hi];refine aW.mk (KZ _ _ i g _ _ (clash (g i)) (by omega) (fun q hq=>EJ [] σ (g i) (g q))) ?_;simp[go_sem];refine aH [0,8,9,10] ?_ ?_<;>intro c4 d4
     ·simp[go_sem];refine aj ?_;simp[go_sem,check,hx,d2,c3,c4]<;>omega
     ·simp(disch:=first|omega|simp) [go_sem,aA];refine dB (i+1) ⟨by omega,by rw[hx,hk'];simp[d2,c3,c4]⟩ (h:=by simp[go_sem]<;>omega)
  ·obtain rfl:i=n:=by omega
   rw[Nat.sub_self,QZ] at hx;simp[go_sem];refine go true ?_;simp[go_sem];refine aj ?_;simp[go_sem,check,hx]<;>omega
end Go.Proofs.YthlhlnbcjlpigaaGreatDoor
