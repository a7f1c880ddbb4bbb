/- Lemmas, no conditions. -/
import Derived.Test.YthpplckmbbachaaGreatDoorKB2
set_option linter.unusedVariables false
set_option linter.unusedSimpArgs false
namespace Go.aI
def mz:List Oper->Nat->Option Oper
 |[],_=>none
 |o::os,n=>if Nat.beq n 0 then some o else mz os (n-1)
theorem fo: ∀l n,mz l n=l[n]?
 |[],n=>by simp[mz]
 |o::os,0=>by simp[mz]
 |o::os,n+1=>by simp[mz,fo os n]
def gvA(all:List Oper)(s:St)(jx:Nat):Option AV:=
 match mz all jx with
 |some o=>match o.dst with
  |some d=>get s.t d
  |none=>none
 |none=>none
def fE(all:List Oper)(s:St)(o:Oper)(K:Bool->Bool->Prop):Prop:=
 match o.guard with
 |none=>K false true
 |some (jx,want)=>match gvA all s jx with
  |some (.d (.v (.bool b)))=>K true (b==want)
  |some (.iff b0 (.d (.v (.bool b))))=>K true (b0&&(b==want))
  |_=>False
theorem lP{all s o K}(h:fE all s o K):
  ∃gd g,K gd g/\(gd=false->g=true)/\∀{j0 j a w},Rel j0 s j a w->Region.wanted o (yielded all.toArray a.tmps)=g:=by
 unfold fE at h;split at h
 ·grind [Region.wanted]
 ·rename_i jx want hg;have key: ∀av,gvA all s jx=some av->∀{j0 j a w},Rel j0 s j a w->∃d,((all[jx]?).bind (·.dst))=some d/\d<a.tmps.size/\R w j av (a.tmps.getD d Go.undef):=by
   intro av hav j0 j a w hr;unfold gvA at hav;rw[fo] at hav;split at hav
   ·rename_i o' ho';split at hav
    ·rename_i d hd;have:=hr.tmp d av hav;exact⟨d,ai,by rw[hr.size];grind,this.2⟩
    grind
   grind
  split at h
  ·grind [iu,yC,Region.wanted,yielded]
  ·rename_i b0 b hv;refine⟨true,_,h,an,fun hr=> ?_⟩;rename_i _ _ a _;obtain⟨d,h1,h2,h3⟩:=key _ hv hr;rw[(yC h2).2] at h3;cases h3<;>grind [iu,Region.wanted,yielded,Go.undef]
  grind
def lI(gd g:Bool)(av:AV):AV:=match gd with
 |false=>av
 |true=> .iff g av
def pI(dr gd g:Bool)(o:Oper)(s:St)(K:St->Prop)(E:(St->Prop)->Prop):Prop:=
 dr=false/\(match gd with
 |false=>E K
 |true=>(g=true->E K)/\(g=false->K (s.del o.dst)))
def cI(P:Program)(t:TypeId):Option (List Value):=
 match P.info? t with
 |some i=>match i.zero with
  |some z=>some z.cells.toList
  |none=>none
 |none=>none
def kL(P:Program)(t:TypeId)(s:St)(p v:AV)(K:St->Prop):Prop:=
 match eH P t with
 |some (_,m)=>fJ (cellsOf v)=true/\(cellsOf v).length=m/\(match pf s.σ p (cellsOf v) with
  |some (side,σ')=>side/\K { s with σ:=σ' }
  |none=>False)
 |none=>False
def PF(P:Program)(t:TypeId)(s:St)(p v:AV)(K:St->Prop):Prop:=
 match p,v with
 | .pe _ _ _ _,.ms b _ _ _=>(match s.σ[b]? with
  |some (.arr sz n' row)=>kL P t ⟨s.N,sJ b sz n' row s.t,GS b sz n' row s.σ,b::s.mv⟩ (lf b sz n' row p) (lf b sz n' row v) K
  |_=>False)
 |_,_=>kL P t s p v K
def EF(neg:Bool)(x:AV)(K:AV->Prop):Prop:=
 match x with
 | .d (.sl _ _ n _)=> ∀b:Bool,(b=true->n=0)->K (.d (.v (.bool (b !=neg))))
 | .ms _ _ _ n=> ∀b:Bool,(b=true->n=0)->K (.d (.v (.bool (b !=neg))))
 | .d (.v (.slice none _ _))=>K (.d (.v (.bool !neg)))
 |_=>False
def cM(P:Program)(t:TypeId):Bool:=match P.underlying t with|some (.slice _)=>true|_=>false
def bK(P:Program)(gd g:Bool)(f:FuncId)(args:List AV)(s:St)(dst:Option Tmp)(K:St->Prop):Prop:= ∃r,(g=true->ak P f args s.σ r)/\K (s.put dst (lI gd g r))
def XS(P:Program)(f:FuncId)(args:List AV)(σ:List aZ)(r:AV):Prop:=
 ∀j w vs,aQ w j σ->Rs w j args vs->∃v,(callFunc f vs).run P w= .ok (.value v) w/\R w j r v
def az(P:Program)(f:FuncId)(args:List AV)(s:St)(dst:Option Tmp)(K:St->Prop):Prop:=(CS P f args s.σ fun r σ' X=>K ((s.after σ' X).put dst r))\/∃r,XS P f args s.σ r/\K (s.put dst r)
theorem bK.mk{P gd g f args s dst K r}(h:ak P f args s.σ r)(hK:K (s.put dst (lI gd g r))):bK P gd g f args s dst K:=⟨r,fun _=>h,hK⟩
theorem bK.mk'{P gd g f args s dst K}(r)(h:g=true->ak P f args s.σ r)(hK:K (s.put dst (lI gd g r))):bK P gd g f args s dst K:=⟨r,h,hK⟩
theorem az.mk{P f args s dst K r}(h:ak P f args s.σ r)(hK:K (s.put dst r)):az P f args s dst K:= .inl (h.cs hK)
theorem az.ext{P f args s dst K r}(h:XS P f args s.σ r)(hK:K (s.put dst r)):az P f args s dst K:= .inr ⟨r,h,hK⟩
theorem az.gen{P f args s dst K Q}(h:CS P f args s.σ Q)(hK: ∀r σ' X,Q r σ' X->K ((s.after σ' X).put dst r)):az P f args s dst K:= .inl (h.mono hK)
theorem VF{P gd g g' f args args' s s' dst K}(hg:g=g')(ha:args=args')(hs:s=s'):bK P gd g f args s dst K=bK P gd g' f args' s' dst K:=by grind
theorem VE{P f args args' s s' dst K}(ha:args=args')(hs:s=s'):az P f args s dst K=az P f args' s' dst K:=by grind
def YS(P:Program)(b:Nat)(args:List AV)(σ:List aZ)(Q:AV->List aZ->List Nat->Prop):Prop:=
 ∀(rd:Option Nat) j w vs cb,aQ w j σ->Rs w j args vs->j[b]? =some (some cb)->
  ∃fn tmps assign body,(Instr.yield cb vs).run P w= .ok (.round cb fn tmps assign body) w/\RoundIn (FW rd) 0 P cb fn tmps assign body w fun e w'=>
   ∃v r σ' j' X,e= .returned v/\aQ w' j' σ'/\R w' j' r v/\Ev j w j' w'/\j.length<=j'.length/\Ag j j' X/\Q r σ' X
theorem YS.mono{P b args σ Q Q'}(h:YS P b args σ Q)(hq: ∀r σ' X,Q r σ' X->Q' r σ' X):YS P b args σ Q':=
 fun rd j w vs cb h1 h2 h3=>by
  obtain⟨fn,tmps,tI,bd,h4,h5⟩:=h rd j w vs cb h1 h2 h3;exact⟨fn,tmps,tI,bd,h4,h5.mono fun _ _ ⟨v,r,σ',j',X,he,a,b,c,d,e,q⟩=>⟨v,r,σ',j',X,he,a,b,c,d,e,hq _ _ _ q⟩⟩
def YSk(P:Program)(b:Nat)(args:List AV)(s:St)(dst:Option Tmp)(K:St->Prop):Prop:=YS P b args s.σ fun r σ' X=>K ((s.after σ' X).put dst r)
def CSe(P:Program)(g:Bool)(f:FuncId)(args:List AV)(s:St)(dst:Option Tmp)(K:St->Prop):Prop:= ∃r0,(g=true->az P f args s dst K)/\(g=false->K (s.put dst (.iff false r0)))
def cE(P:Program)(g:Bool)(f:FuncId)(args:List AV)(s:St)(dst:Option Tmp)(K:St->Prop):Prop:=bK P true g f args s dst K\/CSe P g f args s dst K
def YSe(P:Program)(g:Bool)(b:Nat)(args:List AV)(s:St)(dst:Option Tmp)(K:St->Prop):Prop:= ∃r0,(g=true->YSk P b args s dst K)/\(g=false->K (s.put dst (.iff false r0)))
theorem cE.mk{P g f args s dst K r}(h:ak P f args s.σ r)(hK:K (s.put dst (lI true g r))):cE P g f args s dst K:= .inl (bK.mk h hK)
theorem cE.mk'{P g f args s dst K}(r)(h:g=true->ak P f args s.σ r)(hK:K (s.put dst (lI true g r))):cE P g f args s dst K:= .inl (bK.mk' r h hK)
theorem YSk.gen{P b args s dst K Q}(h:YS P b args s.σ Q)(hK: ∀r σ' X,Q r σ' X->K ((s.after σ' X).put dst r)):YSk P b args s dst K:=h.mono hK
theorem VD{P g g' f args args' s s' dst K}(hg:g=g')(ha:args=args')(hs:s=s'):cE P g f args s dst K=cE P g' f args' s' dst K:=by grind
theorem Vw{P b args args' s s' dst K}(ha:args=args')(hs:s=s'):YSk P b args s dst K=YSk P b args' s' dst K:=by grind
theorem Vx{P g g' b args args' s s' dst K}(hg:g=g')(ha:args=args')(hs:s=s'):YSe P g b args s dst K=YSe P g' b args' s' dst K:=by grind
def yB:AV->AV
 | .d (.v (.func (.func f) a b))=> .clo (.func f) (a.toList.map fun v=> .d (.v v)) (b.toList.map fun v=> .d (.v v))
 |x=>x
theorem It{g s x av}(h:Arg g s x av):Arg g s x (yB av):=by
 unfold yB;split
 ·rename_i f a b;intro hg j0 j u w hr;have:=h hg j0 j u w hr;rw[iu this];have key: ∀(c:Array Value) (k:Nat),k<(c.toList.map fun v=>AV.d (.v v)).length->R w j ((c.toList.map fun v=>AV.d (.v v)).getD k .undef) (c.getD k Go.undef):=by
   intro c k hk;simp only[List.length_map,Array.length_toList] at hk;have e:(c.toList.map fun v=>AV.d (.v v)).getD k .undef= .d (.v (c.getD k Go.undef)):=by
    simp_all
   rw[e];exact .d (.v _)
  exact .clo a b an an (key a) (key b)
 grind
theorem Vm(f x y):yB (.clo (.func f) x y)= .clo (.func f) x y:=rfl
theorem Vl(b):yB (.rl b)= .rl b:=rfl
theorem abr(f):yB (.d (.v (.func (.func f) #[] #[])))= .clo (.func f) [] []:=rfl
theorem Y4(f p q):yB (.d (.v (.func (.func f) #[] #[p,q])))= .clo (.func f) [] [.d (.v p),.d (.v q)]:=rfl
def JK(P:Program)(dr gd g:Bool)(o:Oper)(s:St)(K:St->Prop):Prop:=
 match o.op with
 | .box t x=>pI dr gd g o s K fun K=>arg true s x fun a=>fJ (cellsOf a)=true/\K ((s.newVar (cellsOf a)).put o.dst (.ptr s.σ.length 0))
 | .alloc t=>pI dr gd g o s K fun K=>match cI P t with
  |some z=>K ((s.newVar (z.map fun v=> .d (.v v))).put o.dst (.ptr s.σ.length 0))
  |none=>False
 | .store t p v=>pI dr gd g o s K fun K=>arg true s p fun p=>arg true s v fun v=>PF P t s p v fun s'=>K (s'.put o.dst .undef)
 | .buildSlice t len ps=>oW g s ps.toList fun parts=>df P t len parts fun av=>K (s.put o.dst (lI gd g av))
 | .makeMap t r=>pI dr gd g o s K fun K=>match rr P t with
  |some (d,_)=>(match r with
   |none=>K ((s.after (s.σ++[.mp d [] fun _=> .undef]) []).put o.dst (.mp s.σ.length))
   |some x=>arg true s x fun
    | .d (.v (.int _ _))=>K ((s.after (s.σ++[.mp d [] fun _=> .undef]) []).put o.dst (.mp s.σ.length))
    |_=>False)
  |none=>False
 | .mapUpdate t m k v=>pI dr gd g o s K fun K=>arg true s m fun m=>arg true s k fun k=>arg true s v fun v=>V8 P t s.σ m k v fun σ'=>K ((s.after σ' []).put o.dst .undef)
 | .insert t m k v=>pI dr gd g o s K fun K=>arg true s m fun m=>arg true s k fun k=>arg true s v fun v=>V8 P t s.σ m k v fun σ'=>K ((s.after σ' []).put o.dst .undef)
 | .mapEntry t m k=>pI dr gd g o s K fun K=>arg true s m fun m=>arg true s k fun k=>YA P t s.σ m k fun r σ'=>K ((s.after σ' []).put o.dst r)
 | .entryStore t m k v=>pI dr gd g o s K fun K=>arg true s m fun m=>arg true s k fun k=>arg true s v fun v=>Yv s.σ m k v fun σ'=>K ((s.after σ' []).put o.dst .undef)
 | .range t x=>pI dr gd g o s K fun K=>arg true s x fun m=>PU P t s.σ m fun b σ'=>K ((s.after σ' [b]).put o.dst (.ptr b 0))
 | .next x false=>pI dr gd g o s K fun K=>arg true s x fun a=>Xm s.σ a fun r σ'=>K ((s.after σ' []).put o.dst r)
 | .makeSlice t l c=>pI dr gd g o s K fun K=>arg true s l fun
  | .d (.v (.int _ l))=>arg true s c fun
   | .d (.v (.int _ c))=>RY P s.σ t l c fun r σ'=>K ((s.after σ' []).put o.dst r)
   |_=>False
  |_=>False
 | .convert src dst x=>(match jb P dst with
  |some e=>pI dr gd g o s K fun K=>rm P src=true/\arg true s x fun
   | .d (.v (.string b))=>K ((s.after (s.σ++[.arr 1 b.size (strRow b)]) []).put o.dst (.ms s.σ.length 1 0 b.size))
   |_=>False
  |none=>pv P g s (.convert src dst x) fun av=>K (s.put o.dst (lI gd g av)))
 | .binOp op t x y ty=>if cM P t then pI dr gd g o s K fun K=>(match op,y with
   | .eql,.const (.slice none 0 0)=>arg true s x fun a=>EF false a fun r=>K (s.put o.dst r)
   | .neq,.const (.slice none 0 0)=>arg true s x fun a=>EF true a fun r=>K (s.put o.dst r)
   |_,_=>False)
  else pv P g s (.binOp op t x y ty) fun av=>K (s.put o.dst (lI gd g av))
 | .call c=>match c.callee with
  | .builtin b=>match b with
   | .append=>(match dr with
    |true=>(match c.args.toList,c.argTypes.toList with
     |[x,y],[t,t']=>arg g s x fun x=>arg g s y fun y=>oJ P s.σ t t' x y fun av=>K (s.put o.dst (lI gd g av))
     |_,_=>False)
    |false=>pI false gd g o s K fun K=>(match c.args.toList,c.argTypes.toList with
     |[x,y],[t,t']=>arg true s x fun x=>arg true s y fun y=>tK P s.σ t t' x y fun r σ' X=>K ((s.after σ' X).put o.dst r)
     |_,_=>False))
   | .copy=>pI dr gd g o s K fun K=>(match c.args.toList,c.argTypes.toList with
    |[x,y],[t,t']=>arg true s x fun x=>arg true s y fun y=>SO P s.σ t x y fun r σ'=>K ((s.after σ' []).put o.dst r)
    |_,_=>False)
   | .clear=>pI dr gd g o s K fun K=>(match c.args.toList,c.argTypes.toList with
    |[x],[t]=>arg true s x fun x=>KB P t s.σ x fun σ'=>K ((s.after σ' []).put o.dst (.cj []))
    |_,_=>False)
   |_=>pv P g s (.call c) fun av=>K (s.put o.dst (lI gd g av))
  | .value f=>arg g s f fun fa=>match yB fa with
   | .clo (.func fid) first captured=>args g s c.args.toList fun tI=>
    (match dr with
    |true=>bK P gd g fid (first++(tI++captured)) s o.dst K
    |false=>match gd with
     |true=>cE P g fid (first++(tI++captured)) s o.dst K
     |false=>az P fid (first++(tI++captured)) s o.dst K)
   | .rl b=>args g s c.args.toList fun tI=>
    (match dr with
    |true=>False
    |false=>match gd with
     |true=>YSe P g b tI s o.dst K
     |false=>YSk P b tI s o.dst K)
   |_=>False
  | .invoke _ _=>False
 |op=>pv P g s op fun av=>K (s.put o.dst (lI gd g av))
def bz(P:Program)(dr:Bool)(all:List Oper):List Oper->St->(St->Prop)->Prop
 |[],s,K=>K s
 |o::os,s,K=>fE all s o fun gd g=>JK P dr gd g o s fun s'=>bz P dr all os s' K
def Rest(P:Program)(dr:Bool)(all os:List Oper)(K:St->Prop)(s:St):Prop:=bz P dr all os s K
theorem N7(P dr all s K):bz P dr all [] s K=K s:=rfl
theorem J9(P dr all os o s K):bz P dr all (o::os) s K=fE all s o fun gd g=>JK P dr gd g o s (Rest P dr all os K):=rfl
theorem S9(P dr all os K N t σ mv):Rest P dr all os K ⟨N,t,σ,mv⟩=bz P dr all os ⟨N,t,σ,mv⟩ K:=rfl
def Runs(P:Program)(o:Oper)(s:St)(K:St->Prop):Prop:=
 ∀(j0:J0) j a w (next:Act->World->Prop) (Q:Exit->Act->World->Prop),Rel j0 s j a w->(∀s' j' a' w',Rel j0 s' j' a' w'->Ev j w j' w'->K s'->next a' w')->o.wpIn (FW j0.rd) 0 P a w next Q
theorem oX{rd P o a w w' next Q r}(hd: ∀c,o.op≠.defer c)(h:(execOp a.eval o).run P w= .ok r w')(hn:o.uponIn (FW rd) 0 P a next Q (.ok r w')):o.wpIn (FW rd) 0 P a w next Q:=
 ⟨fun _ _=>trivial,by grind [Oper.semAt_eq]⟩
theorem I3{P o s K av gd g}(hd: ∀c,o.op≠.defer c)(hg:g=true)(h:s7 P g s o.op av)(hK:K (s.put o.dst (lI gd g av))):Runs P o s K:=by
 intro j0 j a w next Q hr hn
 obtain⟨v,h1,h2⟩:=h hg j0 j a w o rfl hr;refine oX hd h1 ?_;refine hn _ j _ w (hr.put o.dst ?_) (.refl _ _) hK;cases gd with
 |false=>exact h2
 |true=>exact .iff (fun _=>h2) (fun hf=>ai)
theorem Qx{P dr gd g o s K E}(h:pI dr gd g o s K E)(hgd:gd=false->g=true)(hE:E K->Runs P o s K):(g=true->Runs P o s K)/\(g=false->K (s.del o.dst)):=by
 unfold pI at h;grind
def Skips(o:Oper)(s:St)(K:St->Prop):Prop:= ∃s',K s'/\∀j0 j a w,Rel j0 s j a w->Rel j0 s' j (a.put o.dst Go.undef) w
theorem TE{o s K}(h:K (s.del o.dst)):Skips o s K:=⟨_,h,fun _ _ _ _ hr=>hr.del o.dst Go.undef⟩
theorem u7{o s K gd g av}(hgd:gd=false->g=true)(hg:g=false)(h:K (s.put o.dst (lI gd g av))):Skips o s K:=by
 cases gd with
 |false=>grind
 |true=>exact⟨_,h,fun _ _ _ _ hr=>hr.put o.dst (.iff (fun ht=>ai) (fun _=>rfl))⟩
theorem mn{P f}(h:cG P f=true)(args w):(callFunc f args).run P w= .ok (.enter f args) w:=by
 unfold cG at h;split at h;all_goals simp_all [Option.isSome_iff_ne_none,callFunc]
theorem yr{P w}{a:Act}{o c f fid ff cc}(ho:o.op= .call c)(hc:c.callee= .value f)(hf:a.eval f= .func (.func fid) ff cc)(hen:cG P fid=true):
  (execOp a.eval o).run P w= .ok (.enter fid (ff++c.args.map a.eval++cc)) w:=by
 grind [execOp,resolve,Deferred.ofValue,invoke,mn]
theorem ji{w j xs ys us vs}(h1:Rs w j xs us)(h2:Rs w j ys vs):Rs w j (xs++ys) (us++vs):=by
 refine⟨by simp[h1.1,h2.1],fun k hk=> ?_⟩;simp only[List.length_append] at hk;simp only[List.getD_eq_getElem?_getD,List.getElem?_append,Array.getD_eq_getD_getElem?,Array.getElem?_append,h1.1];by_cases hk1:k<xs.length
 ·have:=h1.2 k hk1;simp_all
 ·have:=h2.2 (k-xs.length) aa;grind [Array.getD_eq_getD_getElem?]
theorem tj{g}(hg:g=true){s}{xs:List Operand}{tI}(hl:tI.length=xs.length)(h: ∀k,k<xs.length->Arg g s (xs.getD k (.const Go.undef)) (tI.getD k .undef)){j0 j a w}(hr:Rel j0 s j a w):Rs w j tI (xs.map a.eval).toArray:=by
 refine⟨by simp[hl],fun k hk=> ?_⟩;have hk':k<xs.length:=aa;have:=h k hk' hg j0 j a w hr;simpa[List.getD_eq_getElem?_getD,Array.getD_eq_getD_getElem?,hk'] using this
theorem Ht{P o s K c f fid first captured tI g}(hg:g=true)(ho:o.op= .call c)(hc:c.callee= .value f)(hf:Arg g s f (.clo (.func fid) first captured))
  (hl:tI.length=c.args.toList.length) (ha: ∀k,k<c.args.toList.length->Arg g s (c.args.toList.getD k (.const Go.undef)) (tI.getD k .undef))
  (gd) (h:CS P fid (first++(tI++captured)) s.σ fun r σ' X=>K ((s.after σ' X).put o.dst (lI gd g r))):Runs P o s K:=by
 intro j0 j a w next Q hr hn
 have h1:=hf hg j0 j a w hr;have hen:=h.1;generalize hv:a.eval f=u at h1
 cases h1 with
 |clo ff cc h2 h3 h4 h5=>
  refine oX eQ (yr (P:=P) (w:=w) ho hc hv hen) ?_;refine⟨by simp[FW],s9 ?_⟩;have hrs:Rs w j (first++tI++captured) (ff++c.args.map a.eval++cc):=by
   refine ji (ji ⟨h2,h4⟩ ?_) ⟨h3,h5⟩;have:=tj hg hl ha hr;have e:(c.args.toList.map a.eval).toArray=c.args.map a.eval:=by apply Array.ext';simp
   rwa [e] at this
  rw[List.append_assoc] at hrs;refine(h.2 j w _ hr.cm hrs).mono ?_;rintro e w' ⟨v,r,σ',j',X,rfl,h6,h7,h8,h9,h10,h11⟩;refine hn _ j' _ w' ((hr.after h8 h6 h9 h10).put o.dst ?_) h8 h11;cases gd with
  |false=>exact h7
  |true=>exact .iff (fun _=>h7) (fun hf=>Ha)
theorem DV{P o s K c f fid first captured tI g}(hg:g=true)(ho:o.op= .call c)(hc:c.callee= .value f)(hf:Arg g s f (.clo (.func fid) first captured))
  (hl:tI.length=c.args.toList.length) (ha: ∀k,k<c.args.toList.length->Arg g s (c.args.toList.getD k (.const Go.undef)) (tI.getD k .undef))
  (h:az P fid (first++(tI++captured)) s o.dst K):Runs P o s K:=by
 rcases h with h|⟨r,hx,hK⟩
 ·exact Ht hg ho hc hf hl ha false h
 ·intro j0 j a w next Q hr hn
  have h1:=hf hg j0 j a w hr;generalize hv:a.eval f=u at h1
  cases h1 with
  |clo ff cc h2 h3 h4 h5=>
   have hrs:Rs w j (first++tI++captured) (ff++c.args.map a.eval++cc):=by
    refine ji (ji ⟨h2,h4⟩ ?_) ⟨h3,h5⟩;have:=tj hg hl ha hr;have e:(c.args.toList.map a.eval).toArray=c.args.map a.eval:=by apply Array.ext';simp
    rwa [e] at this
   rw[List.append_assoc] at hrs;obtain⟨v,g1,g2⟩:=hx j w _ hr.cm hrs;have hrun:(execOp a.eval o).run P w= .ok (.value v) w:=by
    rw[Array.append_assoc] at g1;simp only[execOp,ho,resolve,hc,hv,Deferred.ofValue];simp[invoke,g1]
   refine oX eQ hrun ?_;exact hn _ j _ w (hr.put o.dst g2) (.refl _ _) hK
theorem Tf{P w w'}{a:Act}{o c f cb x}(ho:o.op= .call c)(hc:c.callee= .value f)(hf:a.eval f= .func (.yield cb) #[] #[])(h:(Instr.yield cb (c.args.map a.eval)).run P w= .ok x w'):
  (execOp a.eval o).run P w= .ok x w':=by
 grind [execOp,resolve,Deferred.ofValue,invoke]
theorem DU{P o s K c f b tI g}(hg:g=true)(ho:o.op= .call c)(hc:c.callee= .value f)(hf:Arg g s f (.rl b))
  (hl:tI.length=c.args.toList.length) (ha: ∀k,k<c.args.toList.length->Arg g s (c.args.toList.getD k (.const Go.undef)) (tI.getD k .undef)) (h:YSk P b tI s o.dst K):Runs P o s K:=by
 intro j0 j a w next Q hr hn
 have h1:=hf hg j0 j a w hr;generalize hv:a.eval f=u at h1
 cases h1 with
 | @rl _ cb hb=>
  have hrs:=tj hg hl ha hr;have e:(c.args.toList.map a.eval).toArray=c.args.map a.eval:=by apply Array.ext';simp
  rw[e] at hrs;obtain⟨fn,tmps,asg,bd,h2,h3⟩:=h j0.rd j w _ cb hr.cm hrs hb;refine oX eQ (Tf ho hc hv h2) ?_;refine⟨by simp[FW],?_⟩;refine h3.mono ?_;rintro e w' ⟨v,r,σ',j',X,rfl,h6,h7,h8,h9,h10,h11⟩;exact hn _ j' _ w' ((hr.after h8 h6 h9 h10).put o.dst h7) h8 h11
theorem Ho{o s K r}(h:K (s.put o.dst (.iff false r))):Skips o s K:=
 ⟨_,h,fun _ _ _ _ hr=>hr.put o.dst (.iff (fun ht=>by cases ht) (fun _=>rfl))⟩
theorem FR{P o g s t len ps parts K j0 j a w}(ho:o.op= .buildSlice t len ps)(hg:g=true)(hr:Rel j0 s j a w)
  (h:df P t len parts K) (hl:parts.length=ps.toList.length) (hp: ∀k,k<ps.toList.length->(parts.getD k (0,.undef)).1=(ps.toList.getD k (0,.const Go.undef)).1/\Arg g s (ps.toList.getD k (0,.const Go.undef)).2 (parts.getD k (0,.undef)).2):
  ∃v w' r,(execOp a.eval o).run P w= .ok (.value v) w'/\aQ w' j s.σ/\R w' j r v/\Ev j w j w'/\K r:=by
 obtain⟨v,w',r,h1,h2,h3,h4,h5⟩:=zP (P:=P) (vals:=ps.toList.map fun p=>(p.1,a.eval p.2)) hr.cm h ai (fun k hk=>by
  have hk':k<ps.toList.length:=ai;have:=hp k hk';have e:(ps.toList.map fun p=>(p.1,a.eval p.2)).getD k (0,Go.undef)=((ps.toList.getD k (0,.const Go.undef)).1,a.eval (ps.toList.getD k (0,.const Go.undef)).2):=by
   grind
  rw[e];exact⟨this.1,this.2 hg j0 j a w hr⟩)
 have e:(ps.toList.map fun p=>(p.1,a.eval p.2)).toArray=ps.map fun(i,x)=>(i,a.eval x):=by
  grind
 grind [execOp,er]
theorem tn{P gd g o s K}(h:JK P false gd g o s K)(hgd:gd=false->g=true):(g=true->Runs P o s K)/\(g=false->Skips o s K):=by
 have eff: ∀{E:(St->Prop)->Prop},pI false gd g o s K E->(E K->Runs P o s K)->(g=true->Runs P o s K)/\(g=false->Skips o s K):=by
  intro E he hE;have:=Qx (P:=P) he hgd hE;exact⟨this.1,fun hg=>TE (this.2 hg)⟩
 have uS: ∀{op:Op},o.op=op->pv P g s op (fun av=>K (s.put o.dst (lI gd g av)))->(g=true->Runs P o s K)/\(g=false->Skips o s K):=by
  intro op ho hp;have hd:=En hp;obtain⟨av,h1,h2⟩:=Em hp;rw[←ho] at h2 hd;exact⟨fun hg=>I3 hd hg h2 h1,fun hg=>u7 hgd hg h1⟩
 unfold JK at h;split at h
 ·
  rename_i t x ho;refine eff h fun h=> ?_;obtain⟨av,h,hx⟩:=ar h;obtain⟨hone,hK⟩:=h;intro j0 j a w next Q hr hn
  have h1:=hx rfl j0 j a w hr;obtain⟨h2,h3⟩:=sW h1 hone;obtain⟨g1,g2,g3⟩:=hr.newVar (a.eval x).cells t h2 (fun k hk=>(h3 k hk).1);have hrun:(execOp a.eval o).run P w= .ok (.value (.pointer (some ⟨w.heap.size,0,none⟩))) (w.alloc (.cells (a.eval x).cells t)):=by
   simp[execOp,ho,Instr.box,Go.newVar,newRow]
  refine oX eQ hrun ?_;exact hn _ _ _ _ (g1.put o.dst g3) g2 hK
 ·
  rename_i t ho;refine eff h fun h=> ?_;split at h
  ·rename_i z hz;intro j0 j a w next Q hr hn
   have hz': ∃i zz,P.info? t=some i/\i.zero=some zz/\zz.cells.toList=z:=by
    unfold cI at hz;split at hz
    ·rename_i i hi;split at hz
     ·rename_i zz hzz;simp only[Option.some.injEq] at hz;exact⟨i,zz,hi,hzz,hz⟩
     ·simp at hz
    ·simp at hz
   obtain⟨i,zz,hi,hzz,rfl⟩:=hz';obtain⟨g1,g2,g3⟩:=hr.newVar (cs:=zz.cells.toList.map fun v=> .d (.v v)) zz.cells t an (fun k hk=>by
    simp only[List.length_map,Array.length_toList] at hk;have e1:(zz.cells.toList.map fun v=>AV.d (.v v)).getD k .undef= .d (.v (zz.cells.getD k Go.undef)):=by
     simp[List.getD_eq_getElem?_getD,Array.getD_eq_getD_getElem?,hk]
    rw[e1];exact .d (.v _))
   have hrun:(execOp a.eval o).run P w= .ok (.value (.pointer (some ⟨w.heap.size,0,none⟩))) (w.alloc (.cells zz.cells t)):=by
    simp[execOp,ho,Instr.alloc,zeroValue,typeInfo,hi,hzz,Go.newVar,newRow]
   refine oX eQ hrun ?_;exact hn _ _ _ _ (g1.put o.dst g3) g2 h
  ·exact h.elim
 ·
  rename_i t p v ho;refine eff h fun h=> ?_;obtain⟨pa,h,hp⟩:=ar h;obtain⟨va,h,hv⟩:=ar h;have base: ∀{s0:St} {pa va:AV},kL P t s0 pa va (fun s'=>K (s'.put o.dst .undef))->∀{j0:J0} {j:Js} {a:Act} {w:World} {next:Act->World->Prop} {Q:Exit->Act->World->Prop},Rel j0 s0 j a w->R w j pa (a.eval p)->R w j va (a.eval v)->(∀s' j' a' w',Rel j0 s' j' a' w'->Ev j w j' w'->K s'->next a' w')->o.wpIn (FW j0.rd) 0 P a w next Q:=by
   intro s0 pa va h j0 j a w next Q hr hp hv hn
   unfold kL at h;split at h
   ·rename_i agg m ht;obtain⟨hone,hlen,h⟩:=h;split at h
    ·rename_i side σ' hst;obtain⟨hside,hK⟩:=h;obtain⟨w',h1,h2,h3⟩:=rR (P:=P) hr.cm ht hp hv hone hlen hst hside;have hrun:(execOp a.eval o).run P w= .ok .skip w':=by simp[execOp,ho,h1]
     refine oX eQ hrun ?_;have:=hr.after h3 h2 (Nat.le_refl _) (.refl _ []);exact hn _ _ _ _ (this.put o.dst (.undef _)) h3 hK
    ·exact h.elim
   ·exact h.elim
  intro j0 j a w next Q hr hn
  have hp:=hp rfl j0 j a w hr;have hv:=hv rfl j0 j a w hr;unfold PF at h;split at h
  ·split at h
   ·rename_i hb;obtain⟨hr',he⟩:=hr.tY hb;exact base h hr' (hp.lf hr.cm hb) (hv.lf hr.cm hb) fun s' j' a' w' h1 h2 h3=>hn s' j' a' w' h1 (he.trans h2) h3
   ·exact h.elim
  ·exact base h hr hp hv hn
 ·
  rename_i t len ps ho;obtain⟨parts,h,hl,hp⟩:=jO h;refine⟨fun hg=> ?_,fun hg=> ?_⟩
  ·intro j0 j a w next Q hr hn
   obtain⟨v,w',r,h1,h2,h3,h4,h5⟩:=FR (P:=P) ho hg hr h hl hp;refine oX eQ h1 ?_;have:=hr.after h4 h2 (Nat.le_refl _) (.refl _ []);refine hn _ _ _ _ (this.put o.dst ?_) h4 h5;cases gd with
   |false=>exact h3
   |true=>exact .iff (fun _=>h3) (fun hf=>Ha)
  ·obtain⟨av,h⟩:=FP h;exact u7 hgd hg h
 ·
  rename_i t r ho;refine eff h fun h=> ?_;split at h
  ·rename_i d z ht;have fin:(K ((s.after (s.σ++[.mp d [] fun _=> .undef]) []).put o.dst (.mp s.σ.length)))->∀(hr0: ∀(a:Act) (w:World) j0 j,Rel j0 s j a w->(execOp a.eval o).run P w= .ok (.value (.map (some w.heap.size))) (w.alloc (.map #[] 0))),Runs P o s K:=by
    intro hK hrun j0 j a w next Q hr hn
    obtain⟨h1,h2,h3⟩:=MY hr.cm d;refine oX eQ (hrun a w j0 j hr) ?_;exact hn _ _ _ _ ((hr.after h2 h1 an (cg _ _)).put o.dst h3) h2 hK
   obtain⟨kt,et,kd,zz,g1,g2,g3,g4,g5⟩:=mP ht;split at h
   ·exact fin h fun a w j0 j hr=>by simp[execOp,ho,Instr.makeMap]
   ·obtain⟨xa,h,hx⟩:=ar h;split at h
    ·refine fin h fun a w j0 j hr=> ?_;have h1:=iu (hx rfl j0 j a w hr);simp[execOp,ho,Instr.makeMap,h1,run_underlying g1,asInt,asIntOf,Result.andThen]
    ·exact h.elim
  ·exact h.elim
 ·
  rename_i t m k v ho;refine eff h fun h=> ?_;obtain⟨ma,h,hm⟩:=ar h;obtain⟨ka,h,hk⟩:=ar h;obtain⟨va,h,hv⟩:=ar h;intro j0 j a w next Q hr hn
  obtain⟨w',σ',h1,h2,h3,h4⟩:=Hk (P:=P) hr.cm h (hm rfl j0 j a w hr) (hk rfl j0 j a w hr) (hv rfl j0 j a w hr);have hrun:(execOp a.eval o).run P w= .ok .skip w':=by simp[execOp,ho,h1]
  refine oX eQ hrun ?_;exact hn _ _ _ _ ((hr.after h3 h2 (Nat.le_refl _) (.refl _ [])).put o.dst (.undef _)) h3 h4
 ·
  rename_i t m k v ho;refine eff h fun h=> ?_;obtain⟨ma,h,hm⟩:=ar h;obtain⟨ka,h,hk⟩:=ar h;obtain⟨va,h,hv⟩:=ar h;intro j0 j a w next Q hr hn
  obtain⟨w',σ',h1,h2,h3,h4⟩:=Hk (P:=P) hr.cm h (hm rfl j0 j a w hr) (hk rfl j0 j a w hr) (hv rfl j0 j a w hr);have hrun:(execOp a.eval o).run P w= .ok .skip w':=by simp[execOp,ho,h1]
  refine oX eQ hrun ?_;exact hn _ _ _ _ ((hr.after h3 h2 (Nat.le_refl _) (.refl _ [])).put o.dst (.undef _)) h3 h4
 ·
  rename_i t m k ho;refine eff h fun h=> ?_;obtain⟨ma,h,hm⟩:=ar h;obtain⟨ka,h,hk⟩:=ar h;intro j0 j a w next Q hr hn
  obtain⟨v,w',r,σ',h1,h2,h3,h4,h5⟩:=H7 (P:=P) hr.cm h (hm rfl j0 j a w hr) (hk rfl j0 j a w hr);have hrun:(execOp a.eval o).run P w= .ok (.value v) w':=by
   simp only[execOp,ho];exact er h1
  refine oX eQ hrun ?_;exact hn _ _ _ _ ((hr.after h4 h2 (Nat.le_refl _) (.refl _ [])).put o.dst h3) h4 h5
 ·
  rename_i t m k v ho;refine eff h fun h=> ?_;obtain⟨ma,h,hm⟩:=ar h;obtain⟨ka,h,hk⟩:=ar h;obtain⟨va,h,hv⟩:=ar h;intro j0 j a w next Q hr hn
  obtain⟨w',σ',h1,h2,h3,h4⟩:=H5 (P:=P) (t:=t) hr.cm h (hm rfl j0 j a w hr) (hk rfl j0 j a w hr) (hv rfl j0 j a w hr);have hrun:(execOp a.eval o).run P w= .ok .skip w':=by simp[execOp,ho,h1]
  refine oX eQ hrun ?_;exact hn _ _ _ _ ((hr.after h3 h2 (Nat.le_refl _) (.refl _ [])).put o.dst (.undef _)) h3 h4
 ·
  rename_i t x ho;refine eff h fun h=> ?_;obtain⟨xa,h,hx⟩:=ar h;unfold PU at h;split at h
  ·rename_i b;split at h
   ·rename_i d ks f hb;split at h
    ·rename_i d' z ht;obtain⟨hd,hK⟩:=h;simp only[beq_iff_eq] at hd;subst hd;intro j0 j a w next Q hr hn
     obtain⟨w',j',h1,h2,h3,h4,h5,h6⟩:=TZ (P:=P) hr.cm hb (hx rfl j0 j a w hr) ht;have hrun:(execOp a.eval o).run P w= .ok (.value (.pointer (some ⟨w.heap.size,0,none⟩))) w':=by
      simp only[execOp,ho];exact er h1
     refine oX eQ hrun ?_;exact hn _ _ _ _ ((hr.after h3 h2 h4 h5).put o.dst h6) h3 hK
    ·exact h.elim
   ·exact h.elim
  ·rename_i d ks f;split at h
   ·rename_i d' z ht;obtain⟨hd,hK⟩:=h;simp only[beq_iff_eq] at hd;subst hd;intro j0 j a w next Q hr hn
    obtain⟨w',j',h1,h2,h3,h4,h5,h6⟩:=PT (P:=P) hr.cm (hx rfl j0 j a w hr) ht;have hrun:(execOp a.eval o).run P w= .ok (.value (.pointer (some ⟨w.heap.size,0,none⟩))) w':=by
     simp only[execOp,ho];exact er h1
    refine oX eQ hrun ?_;exact hn _ _ _ _ ((hr.after h3 h2 h4 h5).put o.dst h6) h3 hK
   ·exact h.elim
  ·exact h.elim
 ·
  rename_i x ho;refine eff h fun h=> ?_;obtain⟨xa,h,hx⟩:=ar h;unfold Xm at h;split at h
  ·rename_i b;split at h
   ·rename_i left cur f hb;intro j0 j a w next Q hr hn
    obtain⟨q,w',u,h1,h2,h3,h4,h5,h6⟩:=Xl (P:=P) hr.cm hb (hx rfl j0 j a w hr) o.type;have hrun:(execOp a.eval o).run P w= .ok (.value u) w':=by
     simp only[execOp,ho];exact er h1
    refine oX eQ hrun ?_;exact hn _ _ _ _ ((hr.after h5 h4 (Nat.le_refl _) (.refl _ [])).put o.dst h6) h5 (h q h2 h3)
   ·exact h.elim
  ·exact h.elim
 ·
  rename_i t l c ho;refine eff h fun h=> ?_;obtain⟨la,h,hl⟩:=ar h;split at h
  ·obtain⟨ca,h,hc⟩:=ar h;split at h
   ·intro j0 j a w next Q hr hn
    obtain⟨v,w',j',r,σ',h1,h2,h3,h4,h5,h6,h7⟩:=P5 (P:=P) hr.cm h;have e1:=iu (hl rfl j0 j a w hr);have e2:=iu (hc rfl j0 j a w hr);have hrun:(execOp a.eval o).run P w= .ok (.value v) w':=by
     simp only[execOp,ho,e1,e2];exact er h1
    refine oX eQ hrun ?_;exact hn _ _ _ _ ((hr.after h4 h2 h5 h6).put o.dst h3) h4 h7
   ·exact h.elim
  ·exact h.elim
 ·
  rename_i src dst x ho;split at h
  ·rename_i e hbt;refine eff h fun h=> ?_;obtain⟨hst,h⟩:=h;obtain⟨xa,h,hx⟩:=ar h;split at h
   ·rename_i b;intro j0 j a w next Q hr hn
    obtain⟨v,w',h1,h2,h3,h4⟩:=Lk (P:=P) hr.cm hst hbt b;have e1:=iu (hx rfl j0 j a w hr);have hrun:(execOp a.eval o).run P w= .ok (.value v) w':=by
     simp only[execOp,ho,e1];exact er h1
    refine oX eQ hrun ?_;exact hn _ _ _ _ ((hr.after h4 h2 an (cg _ _)).put o.dst h3) h4 h
   ·exact h.elim
  ·exact uS ho h
 ·
  rename_i op t x y ty ho;split at h
  ·rename_i hsl;refine eff h fun h=> ?_;have hu: ∃e,P.underlying t=some (.slice e):=by
    unfold cM at hsl;split at hsl
    ·exact⟨_,K5⟩
    ·simp at hsl
   obtain⟨e,hu⟩:=hu;have Yw: ∀(w:World) (p:Option Addr) (n c:Nat),(Op.equal t (.slice p n c) (.slice none 0 0)).run P w= .ok p.isNone w:=by
    intro w p n c;show(Op.equalIn (9999+1) t _ _).run P w=_
    rw[Op.equalIn];cases p<;>simp[underlying,hu]
   have main: ∀(neg:Bool) (hop:op=if neg then .neq else .eql) (hy:y= .const (.slice none 0 0)),(arg true s x fun a=>EF neg a fun r=>K (s.put o.dst r))->Runs P o s K:=by
    intro neg hop hy h;obtain⟨xa,h,hx⟩:=ar h;intro j0 j a w next Q hr hn
    have h1:=hx rfl j0 j a w hr;have hrun: ∀(p:Option Addr) (n c:Nat),a.eval x= .slice p n c->(execOp a.eval o).run P w= .ok (.value (.bool (p.isNone !=neg))) w:=by
     intro p n c hp;subst hy;cases neg with
     |false=>
      simp only[Bool.false_eq_true,if_false] at hop;subst hop;simp only[execOp,ho,hp];have:(do eqGuard .eql t x (.const (.slice none 0 0)) (.slice p n c) (a.eval (.const (.slice none 0 0)));binOp .eql t (.slice p n c) (a.eval (.const (.slice none 0 0))):Sem Value).run P w= .ok (.bool p.isNone) w:=by
       rw[Sem.run_bind,jg an an];show(do pure (Value.bool (←Op.equal t (.slice p n c) (.slice none 0 0))):Sem Value).run P w=_
       simp[Yw]
      have:=er this;simpa using this
     |true=>
      simp only[if_true] at hop;subst hop;simp only[execOp,ho,hp];have:(do eqGuard .neq t x (.const (.slice none 0 0)) (.slice p n c) (a.eval (.const (.slice none 0 0)));binOp .neq t (.slice p n c) (a.eval (.const (.slice none 0 0))):Sem Value).run P w= .ok (.bool !p.isNone) w:=by
       rw[Sem.run_bind,jg an an];show(do pure (Value.bool (!(←Op.equal t (.slice p n c) (.slice none 0 0)))):Sem Value).run P w=_
       simp[Yw]
      have:=er this;simpa using this
    unfold EF at h;split at h
    ·generalize hv:a.eval x=u at h1
     cases h1 with|d h1=>
     cases h1 with
     |sl ad c val hcap hle ha hlt hb hlen hcell hrel=>
      refine oX eQ (hrun _ _ _ hv) ?_;exact hn _ _ _ _ (hr.put o.dst (.d (.v _))) (.refl _ _) (h false an)
     |zero p c hcap hp=>
      refine oX eQ (hrun _ _ _ hv) ?_;exact hn _ _ _ _ (hr.put o.dst (.d (.v _))) (.refl _ _) (h p.isNone (fun _=>rfl))
    ·generalize hv:a.eval x=u at h1
     cases h1 with
     |ms c e m h1 h2 h3 h4=>
      refine oX eQ (hrun _ _ _ hv) ?_;exact hn _ _ _ _ (hr.put o.dst (.d (.v _))) (.refl _ _) (h false an)
     |ms0 p h1=>
      refine oX eQ (hrun _ _ _ hv) ?_;exact hn _ _ _ _ (hr.put o.dst (.d (.v _))) (.refl _ _) (h p.isNone (fun _=>rfl))
     |oY p e m h1 h2 h3 h4=>
      refine oX eQ (hrun _ _ _ hv) ?_;exact hn _ _ _ _ (hr.put o.dst (.d (.v _))) (.refl _ _) (h p.isNone (fun _=>rfl))
    ·have:=iu h1;refine oX eQ (hrun _ _ _ this) ?_;refine hn _ _ _ _ (hr.put o.dst (.d (.v _))) (.refl _ _) ?_;simpa using h
    ·exact h.elim
   split at h
   ·exact main false rfl rfl h
   ·exact main true rfl rfl h
   ·exact h.elim
  ·exact uS ho h
 ·
  rename_i c ho;split at h
  ·rename_i b hb;split at h
   ·refine eff h fun h=> ?_;split at h
    ·rename_i x y t t' hxy ht;obtain⟨xa,h,hx⟩:=ar h;obtain⟨ya,h,hy⟩:=ar h;intro j0 j a w next Q hr hn
     obtain⟨v,w',j',r,σ',X,h1,h2,h3,h4,h5,h6,h7⟩:=o3 (P:=P) (ty:=o.type) hr.cm h (hx rfl j0 j a w hr) (hy rfl j0 j a w hr);have hrun:(execOp a.eval o).run P w= .ok (.value v) w':=by
      have e1:c.args.map a.eval= #[a.eval x,a.eval y]:=by
       have:c.args= #[x,y]:=by apply Array.ext';simpa using hxy
       rw[this];simp
      have e2:c.argTypes= #[t,t']:=by apply Array.ext';simpa using ht
      simp only[execOp,ho,resolve,hb];simp[invoke,builtin,e1,e2,h1]
     refine oX eQ hrun ?_;exact hn _ _ _ _ ((hr.after h4 h2 h5 h6).put o.dst h3) h4 h7
    ·exact h.elim
   ·refine eff h fun h=> ?_;split at h
    ·rename_i x y t t' hxy ht;obtain⟨xa,h,hx⟩:=ar h;obtain⟨ya,h,hy⟩:=ar h;intro j0 j a w next Q hr hn
     obtain⟨w',k,σ',h1,h2,h3,h4⟩:=QB (P:=P) (t':=t') (ty:=o.type) hr.cm h (hx rfl j0 j a w hr) (hy rfl j0 j a w hr);have hrun:(execOp a.eval o).run P w= .ok (.value (.int .i64 k)) w':=by
      have e1:c.args.map a.eval= #[a.eval x,a.eval y]:=by
       have:c.args= #[x,y]:=by apply Array.ext';simpa using hxy
       rw[this];simp
      have e2:c.argTypes= #[t,t']:=by apply Array.ext';simpa using ht
      simp only[execOp,ho,resolve,hb];simp[invoke,builtin,e1,e2,h1]
     refine oX eQ hrun ?_;exact hn _ _ _ _ ((hr.after h3 h2 (Nat.le_refl _) (.refl _ [])).put o.dst (.d (.v _))) h3 h4
    ·exact h.elim
   ·refine eff h fun h=> ?_;split at h
    ·rename_i x t hxy ht;obtain⟨xa,h,hx⟩:=ar h;intro j0 j a w next Q hr hn
     obtain⟨w',σ',h1,h2,h3,h4⟩:=OE (P:=P) (ty:=o.type) hr.cm h (hx rfl j0 j a w hr);have hrun:(execOp a.eval o).run P w= .ok (.value (.tuple #[])) w':=by
      have e1:c.args.map a.eval= #[a.eval x]:=by
       have:c.args= #[x]:=by apply Array.ext';simpa using hxy
       rw[this];simp
      have e2:c.argTypes= #[t]:=by apply Array.ext';simpa using ht
      simp only[execOp,ho,resolve,hb];simp[invoke,builtin,e1,e2,h1]
     refine oX eQ hrun ?_;exact hn _ _ _ _ ((hr.after h3 h2 (Nat.le_refl _) (.refl _ [])).put o.dst (.cj #[] (Nat.le_refl _) an)) h3 h4
    ·exact h.elim
   ·exact uS ho h
  ·rename_i f hf;obtain⟨fa,h,hfa⟩:=ar h;replace hfa:=It hfa
   revert h hfa
   generalize yB fa=fa'
   intro h hfa;split at h
   ·obtain⟨tI,h,hl,ha⟩:=hJ h;simp only at h;split at h
    ·rcases h with⟨r,h1,h2⟩|⟨r0,h1,h2⟩
     ·refine⟨fun hg=> ?_,fun hg=>u7 hgd hg h2⟩;exact Ht hg ho hf hfa hl ha true ((h1 hg).cs h2)
     ·exact⟨fun hg=>DV hg ho hf hfa hl ha (h1 hg),fun hg=>Ho (h2 hg)⟩
    ·have hg:=hgd rfl;exact⟨fun hg=>DV hg ho hf hfa hl ha h,fun hg'=>by rw[hg] at hg';cases hg'⟩
   ·obtain⟨tI,h,hl,ha⟩:=hJ h;simp only at h;split at h
    ·obtain⟨r0,h1,h2⟩:=h;exact⟨fun hg=>DU hg ho hf hfa hl ha (h1 hg),fun hg=>Ho (h2 hg)⟩
    ·have hg:=hgd rfl;exact⟨fun hg=>DU hg ho hf hfa hl ha h,fun hg'=>by rw[hg] at hg';cases hg'⟩
   ·exact h.elim
  ·exact h.elim
 ·exact uS rfl h
theorem iH{P Q all} : ∀{os s K j0 j a w},bz P false all os s K->Rel j0 s j a w->
  (∀s' j' a' w',Rel j0 s' j' a' w'->Ev j w j' w'->K s'->Q .normal a' w')->wpListIn (FW j0.rd) 0 P all.toArray Q os a w
 |[],s,K,j0,j,a,w,h,hr,hQ=>hQ s j a w hr (.refl _ _) h
 |o::os,s,K,j0,j,a,w,h,hr,hQ=>by
  obtain⟨gd,g,h,hgd,hw⟩:=lP h;obtain⟨h1,h2⟩:=tn h hgd;have hw:=hw hr;simp only[wpListIn,hw];cases g with
  |true=>
   simp only[if_true];exact(h1 rfl j0 j a w _ _ hr fun s' j' a' w' hr' he hK=>iH hK hr' fun s'' Qd a'' w'' JY he' hK'=>hQ s'' Qd a'' w'' JY (he.trans he') hK')
  |false=>
   simp only[Bool.false_eq_true,if_false];obtain⟨s',hK,hs⟩:=h2 rfl;exact⟨fun _ _=>trivial,iH hK (hs j0 j a w hr) hQ⟩
theorem vP{P Q s id ops}(h:bz P false ops ops s (Q .normal)):cV P (.region id ops.toArray false) Q s:=by
 intro j0 j a w hr;refine wpIn_region_lit (iH h hr fun s' j' a' w' hr' he hq=>⟨s',j',hr',he,hq⟩)
def P2(o:Oper):List Nat:=o.op.operands.toList.filterMap fun| .tmp t=>some t|_=>none
def acf(all:List Oper)(o:Oper):List Nat:=match o.guard with
 |none=>[]
 |some (jx,_)=>match all[jx]? with
  |some g=>g.dst.toList
  |none=>[]
def looks(all:List Oper)(o:Oper):List Nat:=P2 o++acf all o
def bQ(L:List Nat):List (Nat×AV)->List (Nat×AV)
 |[]=>[]
 |(k,v)::t=>if L.contains k then(k,v)::bQ L t else bQ L t
theorem eM{L t k} :get (bQ L t) k=if L.contains k then get t k else none:=by
 induction t<;>grind [bQ,get,sZ]
def St.bQ(L:List Nat)(s:St):St:= { s with t:=aI.bQ L s.t }
theorem Tj{L s}{x:Operand}(h: ∀t,x= .tmp t->t∈L):val (s.bQ L) x=val s x:=by
 cases x<;>grind [val,St.bQ,eM]
theorem a8{L g s}{x:Operand}{K}(h: ∀t,x= .tmp t->t∈L):arg g (s.bQ L) x K=arg g s x K:=by
 grind [arg,Tj]
theorem oc{L g s} : ∀{xs K},(∀x∈xs,∀t,x= .tmp t->t∈L)->args g (s.bQ L) xs K=args g s xs K
 |[],_,_=>rfl
 |x::xs,K,h=>by
  simp only[args];rw[a8 (h x an)];congr 1;funext a
  exact oc fun y hy=>h y ai
theorem qn{L g s} : ∀{xs K},(∀x∈xs,∀t,x.2= .tmp t->t∈L)->oW g (s.bQ L) xs K=oW g s xs K
 |[],_,_=>rfl
 |(i,x)::xs,K,h=>by
  simp only[oW];rw[a8 (h (i,x) an)];congr 1;funext a
  exact qn fun y hy=>h y ai
theorem jq{L g s}{x:Option Operand}{d K}(h: ∀y,x=some y->∀t,y= .tmp t->t∈L):bnd g (s.bQ L) x d K=bnd g s x d K:=by
 cases x<;>grind [bnd,a8]
theorem kW{o x}{t:Nat}(hx:x∈o.op.operands)(ht:x= .tmp t):t∈P2 o:=by
 subst ht;simp only[P2,List.mem_filterMap];exact⟨.tmp t,ai,rfl⟩
set_option maxHeartbeats 1000000 in
theorem L9{P L g s}{op:Op}{K}(h: ∀x∈op.operands,∀t,x= .tmp t->t∈L):pv P g (s.bQ L) op K=pv P g s op K:=by
 cases op with
 |move x=>grind [pv,a8,Op.operands]
 |assign x=>grind [pv,a8,Op.operands]
 |pick c x y=>
  simp_all [pv,a8,Op.operands]
 |binOp op t x y ty=>
  grind [pv,a8,Op.operands]
 |unOp op t x=>grind [pv,a8,Op.operands]
 |extract x i=>grind [pv,a8,Op.operands]
 |fieldAddr t x f=>grind [pv,a8,Op.operands]
 |field t x f=>grind [pv,a8,Op.operands]
 |indexAddr t x y=>
  grind [pv,a8,Op.operands]
 |index t x y=>
  simp_all [pv,a8,Op.operands]
 |load t x=>simp only[pv];rw[a8 (h x Hc)];rfl
 |slice t x lo hi mx=>
  simp only[pv];rw[a8 (h x Hc)];congr 1;funext a
  have hlo: ∀y,lo=some y->∀t,y= .tmp t->t∈L:=fun y hy=>h y (by simp[Op.operands,hy]);have hhi: ∀y,hi=some y->∀t,y= .tmp t->t∈L:=fun y hy=>h y (by simp[Op.operands,hy]);have hmx: ∀y,mx=some y->∀t,y= .tmp t->t∈L:=fun y hy=>h y (by simp[Op.operands,hy]);unfold DM;split
  ·grind [jq]
  ·congr 1;rw[jq hlo];congr 1;grind [jq]
  ·grind [jq]
  ·congr 1;rw[jq hlo];congr 1;funext l;rw[jq hhi];congr 1;funext hh
   cases mx with
   |none=>rfl
   |some m=>grind [jq]
  all_goals grind [jq]
 |build t ps=>
  grind [pv,qn,Op.operands]
 |makeFunc fn f c=>
  grind [pv,oc,Op.operands]
 |convert src dst x=>simp only[pv];exact a8 (h x Hc)
 |nilCheck x=>grind [pv,a8,Op.operands]
 |lookup t x k ok=>
  simp only[pv];rw[a8 (h x Hc)];congr 1;funext a
  rw[a8 (h k Hc)];rfl
 |entry x=>simp only[pv];rw[a8 (h x Hc)];rfl
 |call c=>
  have hc: ∀x∈c.args.toList,∀t,x= .tmp t->t∈L:=fun x hx=>h x (by
   grind [Op.operands,Call.operands])
  simp only[pv];split;all_goals simp_all [a8]
 |_=>rfl
structure Local(P:Program)(all:List Oper)(o:Oper)(s:St)(x:AV):Prop where
 run: ∀(j0:J0) j a w (next:Act->World->Prop) (Q:Exit->Act->World->Prop),Rel j0 (s.bQ (looks all o)) j a w->Region.wanted o (yielded all.toArray a.tmps)=true->
  (∀w' v,aQ w' j s.σ->Ev j w j w'->R w' j x v->next (a.put o.dst v) w')->o.wpIn (FW j0.rd) 0 P a w next Q
 skip: ∀j0 j a w,Rel j0 (s.bQ (looks all o)) j a w->Region.wanted o (yielded all.toArray a.tmps)=false->R w j x Go.undef
theorem aai{j j'}(hl:j'.length=j.length)(h:Ag j j' []):j'=j:=by
 apply List.ext_getElem?;intro b;rcases Nat.lt_or_ge b j.length with hb|hb
 ·exact h b hb an
 grind
theorem J1{all o s K} :fE all (s.bQ (looks all o)) o K=fE all s o K:=by
 unfold fE;split
 ·rfl
 ·rename_i jx want hg;have:gvA all (s.bQ (looks all o)) jx=gvA all s jx:=by
   unfold gvA;rw[fo];grind [St.bQ,eM,looks,acf]
  grind
theorem xO{P all o s K}(h:fE all s o fun gd g=>JK P true gd g o s K): ∃x,Local P all o s x/\K (s.put o.dst x):=by
 rw[←J1] at h;obtain⟨gd,g,h,hgd,hw⟩:=lP h;have hmem: ∀x∈o.op.operands,∀t,x= .tmp t->t∈looks all o:=fun x hx t ht=>List.mem_append.2 (.inl (kW hx ht));have uS: ∀{op:Op},o.op=op->pv P g s op (fun av=>K (s.put o.dst (lI gd g av)))->∃x,Local P all o s x/\K (s.put o.dst x):=by
  intro op ho hp;have hnd: ∀c,o.op≠.defer c:=by rw[ho];exact En hp
  rw[←ho,←L9 hmem] at hp;obtain⟨av,h1,h2⟩:=Em hp;refine⟨_,⟨fun j0 j a w next Q hr hwt hn=> ?_,fun j0 j a w hr hwf=> ?_⟩,h1⟩
  ·have hg:g=true:=by rw[←hw hr];exact hwt
   obtain⟨v,h3,h4⟩:=h2 hg j0 j a w o rfl hr;refine oX hnd h3 ?_;refine hn w v hr.cm (.refl _ _) ?_;cases gd with
   |false=>exact h4
   |true=>exact .iff (fun _=>h4) (fun hf=>Ha)
  ·have hg:g=false:=by rw[←hw hr];exact hwf
   cases gd with
   |false=>rw[hgd rfl] at hg;cases hg
   |true=>exact .iff (fun ht=>by rw[hg] at ht;cases ht) (fun _=>rfl)
 unfold JK at h;split at h;all_goals first
  |exact absurd h.1 an
  |exact uS K5 h
  |skip
 ·rename_i t len ps ho;rw[←qn (L:=looks all o) (fun x hx t ht=>hmem x.2 (by
   simp only[ho,Op.operands,List.mem_toArray,List.mem_map];exact⟨x,hx,rfl⟩) t ht)] at h
  obtain⟨parts,h,hl,hp⟩:=jO h;obtain⟨av,hK,hb⟩:=FQ h;refine⟨_,⟨fun j0 j a w next Q hr hwt hn=> ?_,fun j0 j a w hr hwf=> ?_⟩,hK⟩
  ·have hg:g=true:=by rw[←hw hr];exact hwt
   obtain⟨v,w',r,h1,h2,h3,h4,rfl⟩:=FR (P:=P) ho hg hr hb hl hp;refine oX eQ h1 ?_;refine hn w' v h2 h4 ?_;cases gd with
   |false=>exact h3
   |true=>exact .iff (fun _=>h3) (fun hf=>Ha)
  ·have hg:g=false:=by rw[←hw hr];exact hwf
   cases gd with
   |false=>rw[hgd rfl] at hg;cases hg
   |true=>exact .iff (fun ht=>by rw[hg] at ht;cases ht) (fun _=>rfl)
 ·rename_i src dst x ho;split at h
  ·exact absurd h.1 an
  ·exact uS ho h
 ·rename_i op t x y ty ho;split at h
  ·exact absurd h.1 an
  ·exact uS ho h
 ·rename_i c ho;split at h
  ·rename_i b hb;have hma: ∀x∈c.args.toList,∀t,x= .tmp t->t∈looks all o:=fun x hx=>hmem x (by
    simp only[ho,Op.operands,Call.operands,Array.mem_append];exact .inr (by simpa using hx))
   split at h
   ·dsimp only at h;split at h
    ·rename_i x y t t' e1 e2;rw[e1] at hma;rw[←a8 (hma x an)] at h;obtain⟨xa,h,hx⟩:=ar h;rw[←a8 (hma y an)] at h;obtain⟨ya,h,hy⟩:=ar h;obtain⟨av,hK,hb2⟩:=QV h;refine⟨_,⟨fun j0 j a w next Q hr hwt hn=> ?_,fun j0 j a w hr hwf=> ?_⟩,hK⟩
     ·have hg:g=true:=by rw[←hw hr];exact hwt
      have hx':=hx hg j0 j a w hr;have hy':=hy hg j0 j a w hr;obtain⟨v,w',r,h1,h2,h3,h4,rfl⟩:=u4 (P:=P) (ty:=o.type) hr.cm hb2 hx' hy';have hrun:(execOp a.eval o).run P w= .ok (.value v) w':=by
       have e3:c.args.map a.eval= #[a.eval x,a.eval y]:=by
        apply Array.ext';rw[Array.toList_map,e1];rfl
       have e4:c.argTypes= #[t,t']:=by apply Array.ext';simpa using e2
       simp only[execOp,ho,resolve,hb];rw[e3];simp[invoke,builtin,e4,h1]
      refine oX eQ hrun ?_;refine hn w' v h2 h4 ?_;cases gd with
      |false=>exact h3
      |true=>exact .iff (fun _=>h3) (fun hf=>Ha)
     ·have hg:g=false:=by rw[←hw hr];exact hwf
      cases gd with
      |false=>rw[hgd rfl] at hg;cases hg
      |true=>exact .iff (fun ht=>by rw[hg] at ht;cases ht) (fun _=>rfl)
    ·exact h.elim
   ·exact absurd h.1 an
   ·exact absurd h.1 an
   ·exact uS ho h
  ·rename_i f hf;have hmf: ∀t,f= .tmp t->t∈looks all o:=hmem f (by simp[ho,Op.operands,Call.operands,hf]);have hma: ∀x∈c.args.toList,∀t,x= .tmp t->t∈looks all o:=fun x hx=>hmem x (by
    simp only[ho,Op.operands,Call.operands,Array.mem_append];exact .inr (by simpa using hx))
   rw[←a8 hmf] at h;obtain⟨fa,h,hfa⟩:=ar h;replace hfa:=It hfa
   revert h hfa
   generalize yB fa=fa'
   intro h hfa;split at h
   ·rw[←oc hma] at h;obtain⟨tI,h,hl,ha⟩:=hJ h;obtain⟨r,h1,h2⟩:=h;refine⟨_,⟨fun j0 j a w next Q hr hwt hn=> ?_,fun j0 j a w hr hwf=> ?_⟩,h2⟩
    ·have hg:g=true:=by rw[←hw hr];exact hwt
     have hcs:=h1 hg;have hfv:=hfa hg j0 j a w hr;have hen:=hcs.1;generalize hv:a.eval f=u at hfv
     cases hfv with
     |clo ff cc g2 g3 g4 g5=>
      refine oX eQ (yr (P:=P) (w:=w) ho hf hv hen) ?_;refine⟨by simp[FW],s9 ?_⟩;have hrs:=ji (ji ⟨g2,g4⟩ (tj hg hl ha hr)) ⟨g3,g5⟩;have e:(c.args.toList.map a.eval).toArray=c.args.map a.eval:=by apply Array.ext';simp
      rw[e,List.append_assoc] at hrs;refine(hcs.2 j w _ hr.cm hrs).mono ?_;rintro e w' ⟨v,r',σ',j',X,rfl,h6,h7,h8,h9,h10,rfl,rfl,rfl⟩;have hj:j'=j:=aai (by rw[h6.len,hr.cm.len];rfl) h10;subst hj;refine hn w' v h6 h8 ?_;cases gd with
      |false=>exact h7
      |true=>exact .iff (fun _=>h7) (fun hf=>Ha)
    ·have hg:g=false:=by rw[←hw hr];exact hwf
     cases gd with
     |false=>rw[hgd rfl] at hg;cases hg
     |true=>exact .iff (fun ht=>by rw[hg] at ht;cases ht) (fun _=>rfl)
   ·obtain⟨tI,h,hl,ha⟩:=hJ h;exact h.elim
   ·exact h.elim
  ·exact h.elim
 ·exact uS rfl h
def cD(s:St)(os:List Oper)(xs:Nat->AV):Nat->St
 |0=>s
 |i+1=>match os[i]? with
  |some o=>(cD s os xs i).put o.dst (xs i)
  |none=>cD s os xs i
theorem V9{P all} : ∀{os s K},bz P true all os s K->∃xs,K (cD s os xs os.length)/\∀i o,os[i]? =some o->Local P all o (cD s os xs i) (xs i)
 |[],s,K,h=>⟨fun _=> .undef,h,an⟩
 |o::os,s,K,h=>by
  obtain⟨x,hl,h⟩:=xO h;obtain⟨xs,hK,hloc⟩:=V9 h;have hst: ∀i,cD s (o::os) (fun|0=>x|i+1=>xs i) (i+1)=cD (s.put o.dst x) os xs i:=by
   intro i;induction i<;>grind [cD]
  refine⟨fun|0=>x|i+1=>xs i,?_,fun i o' hi=> ?_⟩
  ·grind
  ·cases i with
   |zero=>simp at hi;subst hi;exact hl
   |succ i=>grind
theorem ot(s os xs): ∀i,(cD s os xs i).N=s.N/\(cD s os xs i).σ=s.σ/\(cD s os xs i).mv=s.mv
 |0=>⟨rfl,rfl,rfl⟩
 |i+1=>by
  have ih:=ot s os xs i;simp only[cD];split
  ·rename_i o _;simp only[St.put];grind
  grind
theorem zC{s:St}{dst x k} :get (s.put dst x).t k=if dst=some k then(if k<s.N then some x else none) else get s.t k:=by
 cases dst with
 |none=>simp[St.put]
 |some d=>
  simp only[St.put,Option.some.injEq];by_cases hd:d<s.N
  ·rw[if_pos aP];grind [get_put]
  ·rw[if_neg aP];grind [tC]
theorem u0{s}{os:List Oper}{xs}{k:Nat} : ∀{i:Nat},(∀p o,p<i->os[p]? =some o->o.dst≠some k)->get (cD s os xs i).t k=get s.t k
 |0,_=>rfl
 |i+1,h=>by
  simp only[cD];have ih:=u0 (s:=s) (os:=os) (xs:=xs) (k:=k) (i:=i) (fun p o hp=>h p o aa);grind [zC]
theorem uZ{s}{os:List Oper}{xs}{k q:Nat}{oq}(hq:os[q]? =some oq)(hd:oq.dst=some k): ∀{i},q<i->(∀p o,q<p->p<i->os[p]? =some o->o.dst≠some k)->get (cD s os xs i).t k=if k<s.N then some (xs q) else none
 |i+1,hqi,h=>by
  simp only[cD];by_cases hqe:q=i
  ·grind [zC,ot]
  ·have ih:=uZ (s:=s) (xs:=xs) hq hd (i:=i) aa (fun p o h1 h2=>h p o h1 aa);grind [zC]
end Go.aI
