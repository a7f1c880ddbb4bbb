/- Lemmas, no conditions. -/
import Derived.KernelRfl
import Derived.Test.YthpplckmbbachaaGreatDoorKB6
import Derived.Test.YthpplckmbbachaaGreatDoorProg
set_option linter.unusedVariables false
set_option linter.unusedSimpArgs false
set_option maxHeartbeats 400000
set_option maxRecDepth 100000
namespace Go.aI
inductive Fr where
 |seq (y:Code)
 |block (id:Nat)
def post(P:Program):List Fr->(Exit->St->Prop)->Exit->St->Prop
 |[],Q=>Q
 | .seq y::k,Q=>qT (cV P y (post P k Q)) (post P k Q)
 | .block id::k,Q=>nI id (post P k Q)
def Rt:Code->Nat
 | .seq x y=>Rt x+Rt y+3
 | .block _ x=>Rt x+3
 | .cond _ x y=>Rt x+Rt y+3
 |_=>2
def Zp:List Fr->Nat
 |[]=>0
 | .seq y::k=>Rt y+1+Zp k
 | .block _::k=>1+Zp k
def Rq:Code⊕Exit->Nat
 | .inl c=>Rt c
 | .inr _=>1
def VC(o:Option AV)(x y:St->Prop)(s:St):Prop:= ∃b s',o=some (.d (.v (.bool b)))/\Sub s s'/\(b=true->x s')/\(b=false->y s')
def Stp(b:Bool)(x y:Prop):Prop:=match b with|true=>x|false=>y
theorem Rr(c):2<=Rt c:=by cases c<;>simp[Rt]<;>omega
def wk(P:Program)(b:Bool)(Q:Exit->St->Prop)(c:Code⊕Exit)(k:List Fr)(s:St):Prop:=
 match c,k with
 | .inl (.seq x y),k=>wk P b Q (.inl x) (.seq y::k) s
 | .inl (.block id x),k=>wk P b Q (.inl x) (.block id::k) s
 | .inl .skip,k=>wk P b Q (.inr .normal) k s
 | .inl (.label _),k=>wk P b Q (.inr .normal) k s
 | .inl (.exit i),k=>wk P b Q (.inr (.exit i)) k s
 | .inl (.cond c x y),k=>VC (val s c) (fun s=>wk P b Q (.inl x) k s) (fun s=>wk P b Q (.inl y) k s) s
 | .inl (.region id ops false),k=>bz P false ops.toList ops.toList s fun s=>Stp b (wk P b Q (.inr .normal) k s) (post P k Q .normal s)
 | .inl c,k=>cV P c (post P k Q) s
 | .inr e,[]=>Q e s
 | .inr .normal,.seq y::k=>wk P b Q (.inl y) k s
 | .inr e,.seq y::k=>wk P b Q (.inr e) k s
 | .inr (.exit i),.block id::k=>if Nat.beq i id then wk P b Q (.inr .normal) k s else wk P b Q (.inr (.exit i)) k s
 | .inr e,.block id::k=>wk P b Q (.inr e) k s
termination_by Rq c+Zp k
decreasing_by all_goals simp_wf<;>simp[Rq,Rt,Zp]<;>(grind)
def Shows(P:Program)(Q:Exit->St->Prop)(k:List Fr)(s:St):Code⊕Exit->Prop
 | .inl c=>cV P c (post P k Q) s
 | .inr e=>post P k Q e s
theorem Le{P b Q} : ∀(n) {c k s},Rq c+Zp k<=n->wk P b Q c k s->Shows P Q k s c:=by
 intro n;induction n with
 |zero=>
  grind [Rr,Rq]
 |succ n ih=>
  intro c k s hn h;cases c with
  |inl c=>
   have hp:=Rr c;cases c with
   |skip=>rw[wk] at h;exact aJ (ih (by grind [Rq]) h)
   |label l=>rw[wk] at h;exact Vj (ih (by grind [Rq]) h)
   |exit i=>rw[wk] at h;exact bN (ih (by grind [Rq]) h)
   |seq x y=>rw[wk] at h;exact aq (ih (c:= .inl x) (by grind [Rq,Rt,Zp]) h)
   |block id x=>rw[wk] at h;exact aB (ih (c:= .inl x) (by grind [Rq,Rt,Zp]) h)
   |cond c x y=>
    rw[wk] at h;obtain⟨b,s',ho,hs,ht,hf⟩:=h;intro j0 j a w hr;have hv:=v8 hr ho;have hb:a.eval c= .bool b:=by
     generalize a.eval c=u at hv
     cases hv with|d h=>cases h;rfl
    refine wpIn_cond hb ?_;cases b with
    |true=>exact fg hs (ih (c:= .inl x) (by grind [Rq,Rt]) (ht rfl)) j0 j a w hr
    |false=>exact fg hs (ih (c:= .inl y) (by grind [Rq,Rt]) (hf rfl)) j0 j a w hr
   |region id ops draw=>
    cases draw with
    |true=>rw[wk] at h;exact h;all_goals simp
    |false=>
     rw[wk] at h;show cV P (.region id ops false) (post P k Q) s
     have e:ops=ops.toList.toArray:=an;rw[e];refine cV.mono (vP (Q:=fun e s=>match e with| .normal=>Stp b (wk P b Q (.inr .normal) k s) (post P k Q .normal s)|_=>False) h) fun e s he=> ?_;cases e with
     |normal=>cases b with
      |true=>exact ih (c:= .inr .normal) (by grind [Rq]) he
      |false=>exact he
     |_=>exact he.elim
   |loop x=>rw[wk] at h;exact h;all_goals simp
   |rangeFunc f p x y=>rw[wk] at h;exact h;all_goals simp
   |scope x=>rw[wk] at h;exact h;all_goals simp
   |goto l=>rw[wk] at h;exact h;all_goals simp
   |ret=>rw[wk] at h;exact h;all_goals simp
   |refuse w=>rw[wk] at h;exact h;all_goals simp
  |inr e=>
   cases k with
   |nil=>rw[wk] at h;exact h
   |cons f k=>
    cases f with
    |seq y=>
     cases e with
     |normal=>rw[wk] at h;exact ih (c:= .inl y) (by grind [Rq,Zp]) h
     |exit i=>rw[wk] at h;exact ih (c:= .inr (.exit i)) (k:=k) rH h;grind
     |goto l=>rw[wk] at h;exact ih (c:= .inr (.goto l)) (k:=k) rH h;grind
     |ret=>rw[wk] at h;exact ih (c:= .inr (.ret)) (k:=k) rH h;grind
     |panic q=>rw[wk] at h;exact ih (c:= .inr (.panic q)) (k:=k) rH h;grind
     |outgrown=>rw[wk] at h;exact ih (c:= .inr (.outgrown)) (k:=k) rH h;grind
    |block id=>
     cases e with
     |exit i=>
      rw[wk] at h;show nI id (post P k Q) (.exit i) s
      rw[xX];split at h
      ·rename_i h1;rw[if_pos h1];exact ih (c:= .inr .normal) (k:=k) (by grind [Rq,Zp]) h
      ·rename_i h1;rw[if_neg h1];exact ih (c:= .inr (.exit i)) (k:=k) rH h
     |normal=>rw[wk] at h;exact ih (c:= .inr .normal) (k:=k) rH h;grind
     |goto l=>rw[wk] at h;exact ih (c:= .inr (.goto l)) (k:=k) rH h;grind
     |ret=>rw[wk] at h;exact ih (c:= .inr .ret) (k:=k) rH h;grind
     |panic q=>rw[wk] at h;exact ih (c:= .inr (.panic q)) (k:=k) rH h;grind
     |outgrown=>rw[wk] at h;exact ih (c:= .inr .outgrown) (k:=k) rH h;grind
section
variable {P : Program} {b : Bool} {Q : Exit -> St -> Prop} {N : Nat} {t : List (Nat × AV)} {σ : List aZ} {mv : List Nat} {k : List Fr}
theorem go(b){c s}(h:wk P b Q (.inl c) k s):cV P c (post P k Q) s:=Le _ (Nat.le_refl _) h
theorem go0(b){c s}(h:wk P b Q (.inl c) [] s):cV P c Q s:=Le _ (Nat.le_refl _) h
theorem Zy:wk P b Q (.inl .skip) k ⟨N,t,σ,mv⟩=wk P b Q (.inr .normal) k ⟨N,t,σ,mv⟩:=by rw[wk]
theorem V2{l} :wk P b Q (.inl (.label l)) k ⟨N,t,σ,mv⟩=wk P b Q (.inr .normal) k ⟨N,t,σ,mv⟩:=by rw[wk]
theorem ZB{i} :wk P b Q (.inl (.exit i)) k ⟨N,t,σ,mv⟩=wk P b Q (.inr (.exit i)) k ⟨N,t,σ,mv⟩:=by rw[wk]
theorem acL{x y} :wk P b Q (.inl (.seq x y)) k ⟨N,t,σ,mv⟩=wk P b Q (.inl x) (.seq y::k) ⟨N,t,σ,mv⟩:=by rw[wk]
theorem V5{id x} :wk P b Q (.inl (.block id x)) k ⟨N,t,σ,mv⟩=wk P b Q (.inl x) (.block id::k) ⟨N,t,σ,mv⟩:=by rw[wk]
theorem ZD{c x y} :wk P b Q (.inl (.cond c x y)) k ⟨N,t,σ,mv⟩=VC (val ⟨N,t,σ,mv⟩ c) (fun s=>wk P b Q (.inl x) k s) (fun s=>wk P b Q (.inl y) k s) ⟨N,t,σ,mv⟩:=by rw[wk]
def Nx(P:Program)(b:Bool)(Q:Exit->St->Prop)(k:List Fr)(s:St):Prop:=Stp b (wk P b Q (.inr .normal) k s) (post P k Q .normal s)
theorem acN{id ops} :wk P b Q (.inl (.region id ops.toArray false)) k ⟨N,t,σ,mv⟩=bz P false ops ops ⟨N,t,σ,mv⟩ (Nx P b Q k):=by rw[wk];rfl
theorem ZC{id ops} :wk P b Q (.inl (.region id ops true)) k ⟨N,t,σ,mv⟩=cV P (.region id ops true) (post P k Q) ⟨N,t,σ,mv⟩:=by rw[wk];all_goals simp
theorem acM:wk P b Q (.inl .ret) k ⟨N,t,σ,mv⟩=cV P .ret (post P k Q) ⟨N,t,σ,mv⟩:=by rw[wk];all_goals simp
theorem ZA{c} :wk P b Q (.inl (.loop c)) k ⟨N,t,σ,mv⟩=cV P (.loop c) (post P k Q) ⟨N,t,σ,mv⟩:=by rw[wk];all_goals simp
theorem Iz{f p x y} :wk P b Q (.inl (.rangeFunc f p x y)) k ⟨N,t,σ,mv⟩=cV P (.rangeFunc f p x y) (post P k Q) ⟨N,t,σ,mv⟩:=by rw[wk];all_goals simp
theorem acP{e} :wk P b Q (.inr e) [] ⟨N,t,σ,mv⟩=Q e ⟨N,t,σ,mv⟩:=by rw[wk]
theorem Zx{y} :wk P b Q (.inr .normal) (.seq y::k) ⟨N,t,σ,mv⟩=wk P b Q (.inl y) k ⟨N,t,σ,mv⟩:=by grind [wk]
theorem Zz{y i} :wk P b Q (.inr (.exit i)) (.seq y::k) ⟨N,t,σ,mv⟩=wk P b Q (.inr (.exit i)) k ⟨N,t,σ,mv⟩:=by rw[wk];grind
theorem acO{id} :wk P b Q (.inr .normal) (.block id::k) ⟨N,t,σ,mv⟩=wk P b Q (.inr .normal) k ⟨N,t,σ,mv⟩:=by rw[wk];grind
theorem V3{id i} :wk P b Q (.inr (.exit i)) (.block id::k) ⟨N,t,σ,mv⟩=if Nat.beq i id then wk P b Q (.inr .normal) k ⟨N,t,σ,mv⟩ else wk P b Q (.inr (.exit i)) k ⟨N,t,σ,mv⟩:=by rw[wk]
theorem afX:Nx P true Q k ⟨N,t,σ,mv⟩=wk P true Q (.inr .normal) k ⟨N,t,σ,mv⟩:=rfl
theorem aef:Nx P false Q k ⟨N,t,σ,mv⟩=post P k Q .normal ⟨N,t,σ,mv⟩:=rfl
theorem W4{e} :post P [] Q e ⟨N,t,σ,mv⟩=Q e ⟨N,t,σ,mv⟩:=rfl
theorem T1{y} :post P (.seq y::k) Q .normal ⟨N,t,σ,mv⟩=cV P y (post P k Q) ⟨N,t,σ,mv⟩:=rfl
theorem T3{y i} :post P (.seq y::k) Q (.exit i) ⟨N,t,σ,mv⟩=post P k Q (.exit i) ⟨N,t,σ,mv⟩:=rfl
theorem W2{y} :post P (.seq y::k) Q .ret ⟨N,t,σ,mv⟩=post P k Q .ret ⟨N,t,σ,mv⟩:=rfl
theorem W3{id} :post P (.block id::k) Q .normal ⟨N,t,σ,mv⟩=post P k Q .normal ⟨N,t,σ,mv⟩:=rfl
theorem T2{id} :post P (.block id::k) Q .ret ⟨N,t,σ,mv⟩=post P k Q .ret ⟨N,t,σ,mv⟩:=rfl
theorem PX{id i} :post P (.block id::k) Q (.exit i) ⟨N,t,σ,mv⟩=if Nat.beq i id then post P k Q .normal ⟨N,t,σ,mv⟩ else post P k Q (.exit i) ⟨N,t,σ,mv⟩:=rfl
theorem VB{o o' x y s}(h:o=o'):VC o x y s=VC o' x y s:=by rw[h]
theorem VH{c s s'}(h:s=s'):cV P c Q s=cV P c Q s':=by rw[h]
theorem V4{c s s'}(h:s=s'):wk P b Q c k s=wk P b Q c k s':=by rw[h]
theorem Zk{s s'}(h:s=s'):Nx P b Q k s=Nx P b Q k s':=by rw[h]
theorem Q2{dr all os K s s'}(h:s=s'):Rest P dr all os K s=Rest P dr all os K s':=by rw[h]
theorem cnd{x y o b}(L)(h:o=some (.d (.v (.bool b))))(ht:b=true->x ⟨N,bQ L t,σ,mv⟩)(hf:b=false->y ⟨N,bQ L t,σ,mv⟩):VC o x y ⟨N,t,σ,mv⟩:=
 ⟨b,⟨N,bQ L t,σ,mv⟩,h,Less.sub ⟨rfl,fun _ h=>h,rfl,fun k av hk=>by
  grind [eM]⟩,ht,hf⟩
theorem afQ{x y o b}(h:o=some (.d (.v (.bool b))))(ht:b=true->x ⟨N,t,σ,mv⟩)(hf:b=false->y ⟨N,t,σ,mv⟩):VC o x y ⟨N,t,σ,mv⟩:=⟨b,_,h,Sub.refl _,ht,hf⟩
inductive Bk{α:Type}(N:Nat)(t:List (Nat×AV))(mv:List Nat)(upd:α->List (Nat×AV))(o6:α->List aZ)(ok:α->Prop)(μ:α->Nat)(x:α)(s:St):Prop
 |mk (x':α) (h1:Back ⟨N,puts t (upd x),o6 x,mv⟩ s ⟨N,puts t (upd x'),o6 x',mv⟩) (h2:ok x') (h3:μ x'<μ x)
 |no (h:False)
theorem Bk.get{α upd o6 ok μ}{x:α}{s}(h:Bk N t mv upd o6 ok μ x s): ∃x',Back ⟨N,puts t (upd x),o6 x,mv⟩ s ⟨N,puts t (upd x'),o6 x',mv⟩/\ok x'/\μ x'<μ x:=by
 cases h<;>grind
theorem Ps{X Y Z}(h: ∀s,X s->Y s){e s}(hx:qT X Z e s):qT Y Z e s:=by
 cases e with
 |normal=>exact h s hx
 |_=>exact hx
theorem Zm{α upd o6 ok μ}{x:α}{s s'}(h:s=s'):Bk N t mv upd o6 ok μ x s=Bk N t mv upd o6 ok μ x s':=by rw[h]
theorem bk{α:Type}{upd:α->List (Nat×AV)}{o6:α->List aZ}{ok:α->Prop}{μ:α->Nat}{x:α}(x':α){t':List (Nat×AV)}{σ':List aZ}{mv':List Nat}(h:Im (puts t (upd x)) (o6 x).length (puts t (upd x')) t')
  (hσ: ∃g,σ'=o6 x'++g) (hok:ok x') (hμ:μ x'<μ x) (hb:Leaves (o6 x) (o6 x')) (hm: ∀x∈mv',x∈mv:=by simp):Bk N t mv upd o6 ok μ x ⟨N,t',σ',mv'⟩:=
 .mk x' (bp hσ hb h hm) hok hμ
theorem JQ{c α}(b L M upd o6 ok μ)(x₀:α)(h0:DG (upd x₀) (bQ L t))(hσ:σ=o6 x₀)(hx₀:ok x₀)(hM: ∀x∈mv,x∈M)
  (round: ∀x,ok x->wk P b (qT (Bk N (bQ L t) M upd o6 ok μ x) (post P k Q)) (.inl c) [] ⟨N,puts (bQ L t) (upd x),o6 x,M⟩):cV P (.loop c) (post P k Q) ⟨N,t,σ,mv⟩:=
 ba L rfl (mo M hM (bB upd o6 ok μ x₀ h0 hσ hx₀ fun x hx=>(go0 b (round x hx)).mono fun e s h=>Ps (fun s h=>h.get) h))
theorem mA{c α}(b L upd o6 ok μ)(x₀:α)(h0:DG (upd x₀) (bQ L t))(hσ:σ=o6 x₀)(hx₀:ok x₀)
  (round: ∀x,ok x->wk P b (qT (Bk N (bQ L t) mv upd o6 ok μ x) (post P k Q)) (.inl c) [] ⟨N,puts (bQ L t) (upd x),o6 x,mv⟩):cV P (.loop c) (post P k Q) ⟨N,t,σ,mv⟩:=
 JQ b L mv upd o6 ok μ x₀ h0 hσ hx₀ (fun _ h=>h) round
end
attribute [go_sem ↓] Zy V2 ZB acL V5 ZD acN ZC acM ZA Iz acP Zx Zz acO V3 afX aef W4 T1 T3 W2 W3 T2 PX
attribute [go_sem] bQ List.contains_cons List.contains_nil Bool.or_false Bool.or_true Bool.true_or Bool.false_or
attribute [congr] VB VH V4 Zk Q2 Zm
section
variable {P : Program} {Q : Exit -> St -> Prop} {k : List Fr} {N : Nat} {t : List (Nat × AV)} {σ : List aZ} {mv : List Nat}
theorem km{x y:St->Prop}{o:Option AV}{b:Bool}{D E:Prop}(L:List Nat)(ht:b=true->D->x ⟨N,bQ L t,σ,mv⟩)(hf:b=false->E->y ⟨N,bQ L t,σ,mv⟩)(h:o=some (.d (.v (.bool b))):=by exact rfl)(hD:b=true->D:=by intro h;first|(simp at h;exact h)|exact h)(hE:b=false->E:=by intro h;first|(simp at h;exact h)|exact h):VC o x y ⟨N,t,σ,mv⟩:=cnd L h (fun h=>ht h (hD h)) fun h=>hf h (hE h)
theorem fX{x y:St->Prop}{o:Option AV}{b:Bool}{D E:Prop}(ht:b=true->D->x ⟨N,t,σ,mv⟩)(hf:b=false->E->y ⟨N,t,σ,mv⟩)(h:o=some (.d (.v (.bool b))):=by exact rfl)(hD:b=true->D:=by intro h;first|(simp at h;exact h)|exact h)(hE:b=false->E:=by intro h;first|(simp at h;exact h)|exact h):VC o x y ⟨N,t,σ,mv⟩:=afQ h (fun h=>ht h (hD h)) fun h=>hf h (hE h)
theorem fL{s:St}{c:Operand}{x y:Code}{b:Bool}{D E:Prop}(ht:b=true->D->cV P x Q s)(hf:b=false->E->cV P y Q s)(hc:val s c=some (.d (.v (.bool b))):=by exact rfl)(hD:b=true->D:=by intro h;first|(simp at h;exact h)|exact h)(hE:b=false->E:=by intro h;first|(simp at h;exact h)|exact h):cV P (.cond c x y) Q s:=s5 hc (fun h=>ht h (hD h)) fun h=>hf h (hE h)
theorem cn{x y o b}(L)(h:o=some (.d (.v (.bool b))))(ht:b=true->b=true->x ⟨N,bQ L t,σ,mv⟩)(hf:b=false->b=false->y ⟨N,bQ L t,σ,mv⟩):VC o x y ⟨N,t,σ,mv⟩:=cnd L h (fun h=>ht h h) fun h=>hf h h
theorem cn0{x y o b}(h:o=some (.d (.v (.bool b))))(ht:b=true->b=true->x ⟨N,t,σ,mv⟩)(hf:b=false->b=false->y ⟨N,t,σ,mv⟩):VC o x y ⟨N,t,σ,mv⟩:=afQ h (fun h=>ht h h) fun h=>hf h h
theorem acn{s c x y b}(hc:val s c=some (.d (.v (.bool b))))(ht:b=true->b=true->cV P x Q s)(hf:b=false->b=false->cV P y Q s):cV P (.cond c x y) Q s:=s5 hc (fun h=>ht h h) fun h=>hf h h
theorem bF{α:Type}{upd:α->List (Nat×AV)}{o6:α->List aZ}{ok:α->Prop}{μ:α->Nat}{x:α}(x':α){t':List (Nat×AV)}{σ':List aZ}{mv':List Nat}(hok:ok x')(h:Im (puts t (upd x)) (o6 x).length (puts t (upd x')) t':=by simp[go_sem]<;>omega)
  (hσ: ∃g,σ'=o6 x'++g:=by simp) (hμ:μ x'<μ x:=by first|omega|(dsimp only;omega)) (hb:Leaves (o6 x) (o6 x'):=by exact .refl _) (hm: ∀x∈mv',x∈mv:=by simp):Bk N t mv upd o6 ok μ x ⟨N,t',σ',mv'⟩:=bk x' h hσ hok hμ hb hm
theorem dm{c:Code}{α:Type}(b:Bool)(L:List Nat)(upd:α->List (Nat×AV))(o6:α->List aZ)(ok:α->Prop)(μ:α->Nat)(x₀:α)
  (round: ∀x,ok x->wk P b (qT (Bk N (bQ L t) mv upd o6 ok μ x) (post P k Q)) (.inl c) [] ⟨N,puts (bQ L t) (upd x),o6 x,mv⟩) (hx:ok x₀:=by simp) (h0:DG (upd x₀) (bQ L t):=by simp[go_sem]) (hσ:σ=o6 x₀:=by exact rfl):cV P (.loop c) (post P k Q) ⟨N,t,σ,mv⟩:=mA b L upd o6 ok μ x₀ h0 hσ hx round
end
section
variable {P : Program} {f : FuncId} {fn : Func} {c : Code} {args : List AV} {σ : List aZ} {r : AV} {Q : AV -> List aZ -> Prop} {R : AV -> List aZ -> List Nat -> Prop} {rs : List ResultVar} {N : Nat}
theorem ak.be(hf:P.funcs[f]? =some fn)(h:gJ σ->cV P c (pk P rs σ r) (St.init N args σ))(hen:cG P f=true:=by kernel_rfl)(hb:fn.body=some c:=by exact rfl)(hN:Nat.ble args.length fn.ntmps=true:=by exact rfl)(hr:r.under σ.length:=by simp[go_sem])(eN:fn.ntmps=N:=by conv=>lhs;whnf)(eR:fn.results.toList=rs:=by conv=>lhs;whnf):ak P f args σ r:=by subst eN eR;exact ak.CQ hen hf hb (Nat.le_of_ble_eq_true hN) hr h
theorem ak.bd(b:Bool)(hf:P.funcs[f]? =some fn)(h:gJ σ->wk P b (pk P rs σ r) (.inl c) [] (St.init N args σ))(hen:cG P f=true:=by kernel_rfl)(hb:fn.body=some c:=by exact rfl)(hN:Nat.ble args.length fn.ntmps=true:=by exact rfl)(hr:r.under σ.length:=by simp[go_sem])(eN:fn.ntmps=N:=by conv=>lhs;whnf)(eR:fn.results.toList=rs:=by conv=>lhs;whnf):ak P f args σ r:=by subst eN eR;exact ak.CQ hen hf hb (Nat.le_of_ble_eq_true hN) hr fun w=>go0 b (h w)
theorem CS.beD(X:List Nat)(hf:P.funcs[f]? =some fn)(h:gJ σ->cV P c (r6 P rs σ X Q) (St.init N args σ))(hen:cG P f=true:=by kernel_rfl)(hb:fn.body=some c:=by exact rfl)(hN:Nat.ble args.length fn.ntmps=true:=by exact rfl)(eN:fn.ntmps=N:=by conv=>lhs;whnf)(eR:fn.results.toList=rs:=by conv=>lhs;whnf):CS P f args σ fun r σ' X'=>X'=X/\Q r σ':=by subst eN eR;exact CS.MJ X hen hf hb (Nat.le_of_ble_eq_true hN) h
theorem CS.Gc(b:Bool)(X:List Nat)(hf:P.funcs[f]? =some fn)(h:gJ σ->wk P b (r6 P rs σ X Q) (.inl c) [] (St.init N args σ))(hen:cG P f=true:=by kernel_rfl)(hb:fn.body=some c:=by exact rfl)(hN:Nat.ble args.length fn.ntmps=true:=by exact rfl)(eN:fn.ntmps=N:=by conv=>lhs;whnf)(eR:fn.results.toList=rs:=by conv=>lhs;whnf):CS P f args σ fun r σ' X'=>X'=X/\Q r σ':=by subst eN eR;exact CS.MJ X hen hf hb (Nat.le_of_ble_eq_true hN) fun w=>go0 b (h w)
theorem CS.beW(hf:P.funcs[f]? =some fn)(h:gJ σ->cV P c (tk P rs R) (St.init N args σ))(hen:cG P f=true:=by kernel_rfl)(hb:fn.body=some c:=by exact rfl)(hN:Nat.ble args.length fn.ntmps=true:=by exact rfl)(eN:fn.ntmps=N:=by conv=>lhs;whnf)(eR:fn.results.toList=rs:=by conv=>lhs;whnf):CS P f args σ R:=by subst eN eR;exact CS.MI hen hf hb (Nat.le_of_ble_eq_true hN) h
theorem CS.Ik(b:Bool)(hf:P.funcs[f]? =some fn)(h:gJ σ->wk P b (tk P rs R) (.inl c) [] (St.init N args σ))(hen:cG P f=true:=by kernel_rfl)(hb:fn.body=some c:=by exact rfl)(hN:Nat.ble args.length fn.ntmps=true:=by exact rfl)(eN:fn.ntmps=N:=by conv=>lhs;whnf)(eR:fn.results.toList=rs:=by conv=>lhs;whnf):CS P f args σ R:=by subst eN eR;exact CS.MI hen hf hb (Nat.le_of_ble_eq_true hN) fun w=>go0 b (h w)
end
theorem sm{G H:Prop}(h:H)(e:H->G:=by intro h;simp[go_sem];exact h):G:=e h
theorem sc{G:Prop}(e:G:=by simp[go_sem]):G:=e
theorem so{G:Prop}(e:G:=by simp[go_sem]<;>omega):G:=e
section
variable {P : Program} {f : FuncId} {fn : Func} {c : Code} {args : List AV} {σ : List aZ} {r : AV} {Q : AV -> List aZ -> Prop} {R : AV -> List aZ -> List Nat -> Prop} {H : Prop} {rs : List ResultVar} {N : Nat}
theorem ak.bs(b:Bool)(hf:P.funcs[f]? =some fn)(h:gJ σ->H)(hen:cG P f=true:=by kernel_rfl)(hb:fn.body=some c:=by exact rfl)(hN:Nat.ble args.length fn.ntmps=true:=by exact rfl)(hr:r.under σ.length:=by simp[go_sem])(eN:fn.ntmps=N:=by conv=>lhs;whnf)(eR:fn.results.toList=rs:=by conv=>lhs;whnf)(e:H->wk P b (pk P rs σ r) (.inl c) [] (St.init N args σ):=by intro h;simp[go_sem];exact h):ak P f args σ r:=ak.bd b hf (fun w=>e (h w)) hen hb hN hr eN eR
theorem CS.BA(b:Bool)(X:List Nat)(hf:P.funcs[f]? =some fn)(h:gJ σ->H)(hen:cG P f=true:=by kernel_rfl)(hb:fn.body=some c:=by exact rfl)(hN:Nat.ble args.length fn.ntmps=true:=by exact rfl)(eN:fn.ntmps=N:=by conv=>lhs;whnf)(eR:fn.results.toList=rs:=by conv=>lhs;whnf)(e:H->wk P b (r6 P rs σ X Q) (.inl c) [] (St.init N args σ):=by intro h;simp[go_sem];exact h):CS P f args σ fun r σ' X'=>X'=X/\Q r σ':=CS.Gc b X hf (fun w=>e (h w)) hen hb hN eN eR
theorem CS.bsW(b:Bool)(hf:P.funcs[f]? =some fn)(h:gJ σ->H)(hen:cG P f=true:=by kernel_rfl)(hb:fn.body=some c:=by exact rfl)(hN:Nat.ble args.length fn.ntmps=true:=by exact rfl)(eN:fn.ntmps=N:=by conv=>lhs;whnf)(eR:fn.results.toList=rs:=by conv=>lhs;whnf)(e:H->wk P b (tk P rs R) (.inl c) [] (St.init N args σ):=by intro h;simp[go_sem];exact h):CS P f args σ R:=CS.Ik b hf (fun w=>e (h w)) hen hb hN eN eR
end
theorem aF{P:Program}{c:Code}{Q:Exit->St->Prop}{N:Nat}{t t':List (Nat×AV)}{kp σ σ':List aZ}{mv:List Nat}{sz n':Nat}{row:Nat->List D}(w:gJ kp)(b:Nat)(h:cV P c Q ⟨N,t',σ',b::mv⟩)(hb:σ[b]? =some (.arr sz n' row):=by simp[go_sem];first|exact⟨rfl,rfl,rfl⟩|exact⟨rfl,rfl⟩|exact rfl)(ht:sJ b sz n' row t=t':=by simp[go_sem];rfl)
  (hσ:(∀k sz n' row,kp.map (Cx (kp.length+k) sz n' row)=kp)->(∀sz n' row,kp.map (Cx kp.length sz n' row)=kp)->GS b sz n' row σ=σ':=by intro h1 h2;simp[go_sem,h1,h2];rfl):cV P c Q ⟨N,t,σ,mv⟩:=bg b hb ht (hσ w.tY w.aat) h
theorem gF{P:Program}{c:Code}{Q:Exit->St->Prop}{N:Nat}{t t':List (Nat×AV)}{σ:List aZ}{mv:List Nat}(L:List Nat)(h':cV P c Q ⟨N,t',σ,mv⟩)(h:bQ L t=t':=by simp only[bQ,List.contains_cons,List.contains_nil,Nat.reduceBEq,Bool.or_false,Bool.or_true,Bool.true_or,Bool.false_or,if_true,if_false,Bool.false_eq_true];rfl):cV P c Q ⟨N,t,σ,mv⟩:=ba L h h'
theorem nP{A B:Prop}(h:A)(e:A->B:=by intro h;simp only[List.append_assoc,List.cons_append,List.nil_append,List.length_append,List.length_cons,List.length_nil,Nat.zero_add,Nat.reduceAdd] at h;exact h):B:=e h
theorem nA{A B:Prop}(h:A)(e:A->B:=by intro h;simp only[List.append_assoc,List.cons_append,List.nil_append,List.length_append,List.length_cons,List.length_nil,Nat.zero_add,Nat.add_assoc,Nat.reduceAdd] at h;exact h):B:=e h
theorem nT{A B:Prop}(h:A)(e:A->B:=by intro h;(try simp only[List.append_assoc,List.cons_append,List.nil_append,List.length_append,List.length_cons,List.length_nil,Nat.zero_add,Nat.add_assoc,Nat.reduceAdd] at h);exact h):B:=e h
theorem wS(i:Nat)(h:i<1000000000:=by omega):IntKind.i64.wrap ((i:Int)+1)=((i+1:Nat):Int):=wrap_succ h
theorem sx{α:Sort _}{a b:α}{G:Prop}(h:a=b)(e:a=b->G:=by intro h;simp[go_sem];rw[h];exact af sc):G:=e h
theorem sy{α:Sort _}{a b:α}{G:Prop}(h:a=b)(e:a=b->G:=by intro h;rw[h];exact af sc):G:=e h
section
variable {P : Program} {Q : Exit -> St -> Prop} {N : Nat} {t : List (Nat × AV)} {σ : List aZ} {mv : List Nat} {x y : St -> Prop} {o : Option AV} {b : Bool} {D E : Prop}
theorem dH(L:List Nat)(ht:D->x ⟨N,bQ L t,σ,mv⟩)(hf:E->y ⟨N,bQ L t,σ,mv⟩)(h:o=some (.d (.v (.bool b))):=by exact rfl)(hD:b=true->D:=by intro h;first|(simp at h;exact h)|exact h)(hE:b=false->E:=by intro h;first|(simp at h;exact h)|exact h):VC o x y ⟨N,t,σ,mv⟩:=km L (fun _=>ht) (fun _=>hf) h hD hE
theorem ue(ht:D->x ⟨N,t,σ,mv⟩)(hf:E->y ⟨N,t,σ,mv⟩)(h:o=some (.d (.v (.bool b))):=by exact rfl)(hD:b=true->D:=by intro h;first|(simp at h;exact h)|exact h)(hE:b=false->E:=by intro h;first|(simp at h;exact h)|exact h):VC o x y ⟨N,t,σ,mv⟩:=fX (fun _=>ht) (fun _=>hf) h hD hE
theorem ko{s:St}{c:Operand}{x y:Code}(ht:D->cV P x Q s)(hf:E->cV P y Q s)(hc:val s c=some (.d (.v (.bool b))):=by exact rfl)(hD:b=true->D:=by intro h;first|(simp at h;exact h)|exact h)(hE:b=false->E:=by intro h;first|(simp at h;exact h)|exact h):cV P (.cond c x y) Q s:=fL (fun _=>ht) (fun _=>hf) hc hD hE
theorem gc{G:Prop}(L:List Nat)(ht:D->x ⟨N,bQ L t,σ,mv⟩)(hf:E->y ⟨N,bQ L t,σ,mv⟩)(e:VC o x y ⟨N,t,σ,mv⟩->G:=by intro h;simp[go_sem];exact h)(h:o=some (.d (.v (.bool b))):=by exact rfl)(hD:b=true->D:=by intro h;first|(simp at h;exact h)|exact h)(hE:b=false->E:=by intro h;first|(simp at h;exact h)|exact h):G:=e (dH L ht hf h hD hE)
theorem ak.bt{f:FuncId}{c:Code}{args:List AV}{r:AV}{H:Prop}{fn:Func}{rs:List ResultVar}(hf:P.funcs[f]? =some fn)(h:H)(hen:cG P f=true:=by kernel_rfl)(hb:fn.body=some c:=by exact rfl)(hN:Nat.ble args.length fn.ntmps=true:=by exact rfl)(hr:r.under σ.length:=by simp[go_sem])(eN:fn.ntmps=N:=by conv=>lhs;whnf)(eR:fn.results.toList=rs:=by conv=>lhs;whnf)(e:H->wk P true (pk P rs σ r) (.inl c) [] (St.init N args σ):=by intro h;simp[go_sem];exact h):ak P f args σ r:=ak.bs true hf (fun _=>h) hen hb hN hr eN eR e
end
structure Hid(p:Prop):Prop where
 o:p
theorem wA{G:Prop}{H:Prop}(h:H)(e:Hid (H)->G:=by intro h;simp[go_sem];refine af ?_;exact h.1):G:=e ⟨h⟩
theorem wB{G:Prop}{H:Prop}(h:H)(e:Hid (H)->G:=by intro h;simp[go_sem];(repeat refine⟨aa,?_⟩);exact h.1):G:=e ⟨h⟩
theorem wC{G:Prop}{H:Prop}(h:H)(e:Hid (H)->G:=by intro h;simp(disch:=first|omega|simp) [go_sem,aS];exact h.1):G:=e ⟨h⟩
theorem wD{G:Prop}{A K:St->Prop}{H:Prop}(k: ∀s,A s->K s)(h:H)(e:(∀s,A s->K s)->Hid (H)->G:=by intro k h;simp[go_sem];refine k _ ?_;exact h.1):G:=e k ⟨h⟩
theorem wE{G:Prop}{H:Prop}(h:H)(e:Hid (H)->G:=by intro h;refine aj fun K hK=> ?_;simp[go_sem];refine hK _ ?_;exact h.1):G:=e ⟨h⟩
theorem wF{G:Prop}{H:Prop}(h:H)(e:Hid (H)->G:=by intro h;simp[go_sem];refine go true (sm ?_);exact h.1):G:=e ⟨h⟩
theorem wG{G:Prop}{A K:St->Prop}{H:Prop}(k: ∀s,A s->K s)(h:H)(e:(∀s,A s->K s)->Hid (H)->G:=by intro k h;(repeat refine⟨aa,?_⟩);refine k _ ?_;exact h.1):G:=e k ⟨h⟩
theorem wH{G:Prop}{H:Prop}(h:H)(e:Hid (H)->G:=by intro h;simp[go_sem];refine go false ?_;exact h.1):G:=e ⟨h⟩
theorem wI{G:Prop}{H:Prop}(h:H)(e:Hid (H)->G:=by intro h;simp(disch:=first|omega|simp) [go_sem];exact h.1):G:=e ⟨h⟩
theorem wJ{G:Prop}{H:Prop}(h:H)(e:Hid (H)->G:=by intro h;refine go true ?_;simp[go_sem];refine af ?_;exact h.1):G:=e ⟨h⟩
theorem wK{G:Prop}{A K:St->Prop}{H:Prop}(k: ∀s,A s->K s)(h:H)(e:(∀s,A s->K s)->Hid (H)->G:=by intro k h;(repeat refine⟨aa,?_⟩);refine k _ ?_;refine go true ?_;exact h.1):G:=e k ⟨h⟩
theorem wL{G:Prop}{H:Prop}(h:H)(e:Hid (H)->G:=by intro h;simp[go_sem];refine go true ?_;simp[go_sem];exact h.1):G:=e ⟨h⟩
theorem wM{G:Prop}{H:Prop}(h:H)(e:Hid (H)->G:=by intro h;refine go false ?_;simp[go_sem];exact h.1):G:=e ⟨h⟩
theorem wN{G:Prop}{H:Prop}(h:H)(e:Hid (H)->G:=by intro h;simp[go_sem];refine go true (sm ?_);refine af ?_;exact h.1):G:=e ⟨h⟩
theorem wO{G:Prop}{H:Prop}(h:H)(e:Hid (H)->G:=by intro h;simp[go_sem];refine go true ?_;simp[go_sem];refine af ?_;exact h.1):G:=e ⟨h⟩
theorem wP{G:Prop}{H:Prop}(h:H)(e:Hid (H)->G:=by intro h;refine aj fun K hK=>sm ?_;refine hK _ ?_;exact h.1):G:=e ⟨h⟩
theorem wQ{G:Prop}{A K:St->Prop}{H:Prop}(k: ∀s,A s->K s)(h:H)(e:(∀s,A s->K s)->Hid (H)->G:=by intro k h;simp[go_sem];refine k _ ?_;refine go true ?_;simp[go_sem];refine af ?_;exact h.1):G:=e k ⟨h⟩
theorem wR{G:Prop}{H:Prop}(h:H)(e:Hid (H)->G:=by intro h;simp[go_sem];refine go true ?_;exact h.1):G:=e ⟨h⟩
theorem wT{G:Prop}{H:Prop}(h:H)(e:Hid (H)->G:=by intro h;simp[go_sem];refine go true ?_;simp(disch:=first|omega|simp) [go_sem,aS];exact h.1):G:=e ⟨h⟩
theorem wU{G:Prop}{H:Prop}(h:H)(e:Hid (H)->G:=by intro h;simp[go_sem];refine go false ?_;simp[go_sem];refine go false ?_;exact h.1):G:=e ⟨h⟩
theorem wV{G:Prop}{B:St->Prop}{H:(St->Prop)->Prop}(h: ∀K,(∀s,B s->K s)->H K)(e:Hid (∀K,(∀s,B s->K s)->H K)->G:=by intro h;refine aj fun K hK=> ?_;simp[go_sem];exact h.1 K hK):G:=e ⟨h⟩
theorem wW{G:Prop}{H:Prop}(h:H)(e:Hid (H)->G:=by intro h;refine go false ?_;simp(disch:=first|omega|simp) [go_sem,aS];exact h.1):G:=e ⟨h⟩
theorem wX{G:Prop}{H:Prop}(h:H)(e:Hid (H)->G:=by intro h;simp[go_sem];refine go false ?_;simp[go_sem];exact h.1):G:=e ⟨h⟩
theorem wY{G:Prop}{A K:St->Prop}{B:St->Prop}{H:(St->Prop)->Prop}(k: ∀s,A s->K s)(h: ∀K,(∀s,B s->K s)->H K)(e:(∀s,A s->K s)->Hid (∀K,(∀s,B s->K s)->H K)->G:=by intro k h;refine k _ ?_;refine aj fun K hK=> ?_;simp[go_sem];exact h.1 K hK):G:=e k ⟨h⟩
theorem wZ{G:Prop}{A K:St->Prop}{H:Prop}(k: ∀s,A s->K s)(h:H)(e:(∀s,A s->K s)->Hid (H)->G:=by intro k h;(repeat refine⟨aa,?_⟩);refine k _ ?_;refine go true ?_;simp[go_sem];exact h.1):G:=e k ⟨h⟩
theorem wa{G:Prop}{H:Prop}(h:H)(e:Hid (H)->G:=by intro h;refine go false ?_;simp[go_sem];refine go true ?_;simp[go_sem];exact h.1):G:=e ⟨h⟩
theorem wb{G:Prop}{H:Prop}(h:H)(e:Hid (H)->G:=by intro h;refine go true ?_;simp[go_sem];exact h.1):G:=e ⟨h⟩
theorem wc{G:Prop}{A K:St->Prop}{H:Prop}(k: ∀s,A s->K s)(h:H)(e:(∀s,A s->K s)->Hid (H)->G:=by intro k h;simp[go_sem];refine k _ ?_;refine go true ?_;exact h.1):G:=e k ⟨h⟩
theorem wd{G:Prop}{A K:St->Prop}{H:Prop}(k: ∀s,A s->K s)(h:H)(e:(∀s,A s->K s)->Hid (H)->G:=by intro k h;simp[go_sem];refine k _ ?_;refine go false ?_;simp[go_sem];refine go false ?_;exact h.1):G:=e k ⟨h⟩
theorem we{G:Prop}{H:Prop}(h:H)(e:Hid (H)->G:=by intro h;refine aj fun K hK=>sm ?_;refine hK _ ?_;refine aj fun K hK=>sm ?_;refine hK _ ?_;exact h.1):G:=e ⟨h⟩
theorem wg{G:Prop}{A K:St->Prop}{H:Prop}(k: ∀s,A s->K s)(h:H)(e:(∀s,A s->K s)->Hid (H)->G:=by intro k h;simp[go_sem];refine k _ ?_;refine go true ?_;simp[go_sem];exact h.1):G:=e k ⟨h⟩
theorem wi{G:Prop}{H:Prop}(h:H)(e:Hid (H)->G:=by intro h;refine go false ?_;simp[go_sem];refine go true ?_;exact h.1):G:=e ⟨h⟩
theorem wj{G:Prop}{B:St->Prop}{H:(St->Prop)->Prop}(h: ∀K,(∀s,B s->K s)->H K)(e:Hid (∀K,(∀s,B s->K s)->H K)->G:=by intro h;refine aj fun K hK=>sm ?_;refine hK _ ?_;refine aj fun K hK=>sm ?_;exact h.1 K hK):G:=e ⟨h⟩
end Go.aI
namespace Go.Proofs.YthpplckmbbachaaGreatDoor
open Go.aI Go.Proofs.Tryz
@[go_sem] theorem T.agb:arA prog 367=some (25,1)/\arA prog 409=some (24,1)/\arA prog 411=some (25,1)/\arA prog 441=some (5,1)/\arA prog 498=some (32,1)/\arA prog 499=some (64,1)/\arV prog 367=some (25,false,1)/\arV prog 409=some (24,false,1):=by and_intros<;>kernel_rfl
@[go_sem] theorem T.aga:arV prog 511=some (12,false,1)/\boolT prog 4=true/\jb prog 268=none/\jb prog 3=none/\jb prog 313=none/\jb prog 315=none/\jb prog 366=some 5/\jb prog 369=none:=by and_intros<;>kernel_rfl
@[go_sem] theorem T.ad7:jb prog 446=none/\jb prog 487=none/\jb prog 5=none/\jb prog 9=none/\Pj prog 142=some [.i,.i,.i,.b,.i,.i]/\Pj prog 147=some [.i,.s,.i,.i,.i,.i]/\Pj prog 152=some [.i,.i,.i,.b,.i,.i]/\Pj prog 157=some [.i,.i,.i,.i,.i,.i]:=by and_intros<;>kernel_rfl
@[go_sem] theorem T.af9:Pj prog 163=some [.i,.i]/\Pj prog 173=some [.i,.i,.i,.i,.i,.i,.i]/\Pj prog 179=some [.i,.i,.i,.i]/\Pj prog 185=some [.i,.i]/\Pj prog 194=some [.i,.i,.i,.i,.i,.i]/\Pj prog 67=some [.i,.i]/\Pj prog 75=some [.i,.i,.i]/\Pj prog 88=some [.i,.i]:=by and_intros<;>kernel_rfl
@[go_sem] theorem T.ahg:Pj prog 99=some [.i,.i,.i,.i]/\aC prog 118 0=some 0/\aC prog 118 1=some 1/\aC prog 118 2=some 2/\aC prog 118 3=some 3/\aC prog 118 4=some 4/\aC prog 126 0=some 0/\aC prog 126 1=some 1:=by and_intros<;>kernel_rfl
@[go_sem] theorem T.aaD:aC prog 126 2=some 2/\aC prog 126 3=some 3/\aC prog 126 4=some 4/\aC prog 131 0=some 0/\aC prog 131 1=some 16/\aC prog 131 2=some 17/\aC prog 140 0=some 0/\aC prog 140 1=some 1:=by and_intros<;>kernel_rfl
@[go_sem] theorem T.aaC:aC prog 142 0=some 0/\aC prog 142 1=some 1/\aC prog 142 2=some 2/\aC prog 142 3=some 3/\aC prog 142 4=some 4/\aC prog 147 0=some 0/\aC prog 147 1=some 1/\aC prog 147 2=some 2:=by and_intros<;>kernel_rfl
@[go_sem] theorem T.aaB:aC prog 147 3=some 4/\aC prog 152 0=some 0/\aC prog 152 1=some 1/\aC prog 152 2=some 2/\aC prog 152 3=some 3/\aC prog 152 4=some 4/\aC prog 157 0=some 0/\aC prog 157 1=some 1:=by and_intros<;>kernel_rfl
@[go_sem] theorem T.aaA:aC prog 157 2=some 2/\aC prog 157 3=some 3/\aC prog 157 4=some 4/\aC prog 163 0=some 0/\aC prog 163 1=some 1/\aC prog 173 0=some 0/\aC prog 173 1=some 1/\aC prog 173 2=some 2:=by and_intros<;>kernel_rfl
@[go_sem] theorem T.aaz:aC prog 173 3=some 3/\aC prog 173 4=some 4/\aC prog 173 5=some 5/\aC prog 173 6=some 6/\aC prog 179 0=some 0/\aC prog 179 1=some 1/\aC prog 179 2=some 2/\aC prog 185 0=some 0:=by and_intros<;>kernel_rfl
@[go_sem] theorem T.aay:aC prog 185 1=some 1/\aC prog 194 0=some 0/\aC prog 194 1=some 1/\aC prog 194 2=some 2/\aC prog 194 3=some 4/\aC prog 211 0=some 0/\aC prog 211 1=some 1/\aC prog 251 3=some 3:=by and_intros<;>kernel_rfl
@[go_sem] theorem T.aax:aC prog 251 4=some 4/\aC prog 28 0=some 0/\aC prog 28 1=some 1/\aC prog 28 2=some 2/\aC prog 28 3=some 3/\aC prog 28 4=some 4/\aC prog 28 5=some 5/\aC prog 292 0=some 0:=by and_intros<;>kernel_rfl
@[go_sem] theorem T.aaw:aC prog 292 1=some 1/\aC prog 292 2=some 2/\aC prog 292 3=some 3/\aC prog 38 0=some 0/\aC prog 38 1=some 6/\aC prog 38 10=some 15/\aC prog 38 2=some 7/\aC prog 38 3=some 8:=by and_intros<;>kernel_rfl
@[go_sem] theorem T.acj:aC prog 38 4=some 9/\aC prog 38 5=some 10/\aC prog 38 6=some 11/\aC prog 38 7=some 12/\aC prog 38 8=some 13/\aC prog 38 9=some 14/\aC prog 400 0=some 0/\aC prog 400 1=some 1:=by and_intros<;>kernel_rfl
@[go_sem] theorem T.aav:aC prog 420 0=some 0/\aC prog 420 1=some 25/\aC prog 420 2=some 26/\aC prog 43 1=some 1/\aC prog 43 2=some 2/\aC prog 43 3=some 3/\aC prog 43 4=some 4/\aC prog 448 0=some 0:=by and_intros<;>kernel_rfl
@[go_sem] theorem T.aau:aC prog 448 1=some 1/\aC prog 481 0=some 0/\aC prog 54 0=some 0/\aC prog 54 1=some 1/\aC prog 54 2=some 2/\aC prog 67 0=some 0/\aC prog 67 1=some 1/\aC prog 72 0=some 0:=by and_intros<;>kernel_rfl
@[go_sem] theorem T.aci:aC prog 72 1=some 1/\aC prog 75 0=some 0/\aC prog 75 1=some 1/\aC prog 75 2=some 2/\aC prog 77 0=some 0/\aC prog 77 1=some 1/\aC prog 77 2=some 2/\aC prog 77 3=some 3:=by and_intros<;>kernel_rfl
@[go_sem] theorem T.ach:aC prog 77 4=some 4/\aC prog 77 5=some 5/\aC prog 77 6=some 6/\aC prog 77 7=some 7/\aC prog 88 0=some 0/\aC prog 88 1=some 1/\aC prog 90 0=some 0/\aC prog 90 1=some 1:=by and_intros<;>kernel_rfl
@[go_sem] theorem T.acg:aC prog 90 2=some 3/\aC prog 90 3=some 4/\aC prog 99 0=some 0/\aC prog 99 1=some 1/\aC prog 99 2=some 2/\aC prog 99 3=some 3/\CZ prog 67 0=some (0,false,1)/\ru prog 268=some .u64:=by and_intros<;>kernel_rfl
@[go_sem] theorem T.agQ:ru prog 3=some .i64/\ru prog 313=some .u32/\ru prog 315=some .u64/\ru prog 366=none/\ru prog 369=some .u64/\ru prog 446=none/\ru prog 487=none/\ru prog 5=some .u8:=by and_intros<;>kernel_rfl
@[go_sem] theorem T.agP:ru prog 9=none/\dW prog 116=false/\dW prog 138=false/\dW prog 22=false/\dW prog 23=false/\dW prog 235=false/\dW prog 24=false/\dW prog 25=false:=by and_intros<;>kernel_rfl
@[go_sem] theorem T.ae9:dW prog 26=false/\dW prog 287=false/\dW prog 29=false/\dW prog 30=false/\dW prog 31=false/\dW prog 32=false/\dW prog 33=false/\dW prog 34=false:=by and_intros<;>kernel_rfl
@[go_sem] theorem T.ae8:dW prog 35=false/\dW prog 36=false/\dW prog 366=false/\dW prog 367=true/\dW prog 39=false/\dW prog 40=false/\dW prog 409=true/\dW prog 41=false:=by and_intros<;>kernel_rfl
@[go_sem] theorem T.aeo:dW prog 411=true/\dW prog 441=true/\dW prog 47=false/\dW prog 476=false/\dW prog 498=true/\dW prog 499=true/\dW prog 505=false/\dW prog 510=false:=by and_intros<;>kernel_rfl
@[go_sem] theorem T.ae7:dW prog 63=false/\cM prog 116=true/\cM prog 142=false/\cM prog 147=false/\cM prog 152=false/\cM prog 157=false/\cM prog 163=false/\cM prog 173=false:=by and_intros<;>kernel_rfl
@[go_sem] theorem T.aen:cM prog 179=false/\cM prog 185=false/\cM prog 194=false/\cM prog 21=false/\cM prog 22=true/\cM prog 23=true/\cM prog 24=true/\cM prog 25=true:=by and_intros<;>kernel_rfl
@[go_sem] theorem T.ae6:cM prog 26=true/\cM prog 268=false/\cM prog 29=true/\cM prog 3=false/\cM prog 30=true/\cM prog 305=false/\cM prog 31=true/\cM prog 313=false:=by and_intros<;>kernel_rfl
@[go_sem] theorem T.aem:cM prog 315=false/\cM prog 32=true/\cM prog 33=true/\cM prog 34=true/\cM prog 35=true/\cM prog 358=false/\cM prog 36=true/\cM prog 369=false:=by and_intros<;>kernel_rfl
@[go_sem] theorem T.ae5:cM prog 39=true/\cM prog 4=false/\cM prog 40=true/\cM prog 41=true/\cM prog 446=false/\cM prog 47=true/\cM prog 48=false/\cM prog 5=false:=by and_intros<;>kernel_rfl
@[go_sem] theorem T.ae4:cM prog 67=false/\cM prog 75=false/\cM prog 88=false/\cM prog 9=false/\cM prog 99=false/\eJ prog 116=1/\eJ prog 138=1/\eJ prog 22=1:=by and_intros<;>kernel_rfl
@[go_sem] theorem T.af8:eJ prog 23=1/\eJ prog 235=1/\eJ prog 24=1/\eJ prog 249=1/\eJ prog 25=1/\eJ prog 26=1/\eJ prog 287=1/\eJ prog 29=1:=by and_intros<;>kernel_rfl
@[go_sem] theorem T.agM:eJ prog 3=0/\eJ prog 30=1/\eJ prog 31=1/\eJ prog 32=1/\eJ prog 33=1/\eJ prog 34=1/\eJ prog 35=1/\eJ prog 36=1:=by and_intros<;>kernel_rfl
@[go_sem] theorem T.ae2:eJ prog 366=1/\eJ prog 39=1/\eJ prog 40=1/\eJ prog 41=1/\eJ prog 47=1/\eJ prog 476=1/\eJ prog 505=1/\eJ prog 510=1:=by and_intros<;>kernel_rfl
@[go_sem] theorem T.af7:eJ prog 63=1/\eJ prog 9=2/\rr prog 209=some (false,.agg [.d (.v (.int .i64 0)),.d (.v (.int .i64 0))])/\rr prog 221=some (false,.d (.v (.int .i64 0)))/\rr prog 225=some (false,.agg [.d (.v (.int .i64 0)),.d (.v (.int .i64 0)),.d (.v (.bool false)),.d (.v (.int .i64 0)),.d (.v (.nilFunc))])/\rr prog 269=some (false,.d (.v (.bool false)))/\bM prog 118=some ([(0,1),(1,1),(2,1),(3,1),(4,1)],[.int .i64 0,.int .i64 0,.int .i64 0,.int .i64 0,.slice none 0 0])/\bM prog 126=some ([(0,1),(1,1),(2,1),(3,1),(4,1)],[.int .i64 0,.int .i64 0,.bool false,.int .i64 0,.nilFunc]):=by and_intros<;>kernel_rfl
@[go_sem] theorem T.abZ:bM prog 131=some ([(0,16),(16,1),(17,5)],[.slice none 0 0,.slice none 0 0,.slice none 0 0,.int .i64 0,.slice none 0 0,.slice none 0 0,.slice none 0 0,.slice none 0 0,.slice none 0 0,.slice none 0 0,.int .i64 0,.slice none 0 0,.slice none 0 0,.slice none 0 0,.slice none 0 0,.int .i64 0,.slice none 0 0,.int .i64 0,.int .i64 0,.int .i64 0,.slice none 0 0,.slice none 0 0])/\bM prog 140=some ([(0,1),(1,1)],[.int .i64 0,.int .i64 0])/\bM prog 142=some ([(0,1),(1,1),(2,1),(3,1),(4,2)],[.int .i64 0,.int .i64 0,.int .i64 0,.bool false,.int .i64 0,.int .i64 0])/\bM prog 147=some ([(0,1),(1,1),(2,2),(4,2)],[.int .i64 0,.string ⟨#[]⟩,.int .i64 0,.int .i64 0,.int .i64 0,.int .i64 0])/\bM prog 152=some ([(0,1),(1,1),(2,1),(3,1),(4,2)],[.int .i64 0,.int .i64 0,.int .i64 0,.bool false,.int .i64 0,.int .i64 0])/\bM prog 157=some ([(0,1),(1,1),(2,1),(3,1),(4,2)],[.int .i64 0,.int .i64 0,.int .i64 0,.int .i64 0,.int .i64 0,.int .i64 0])/\bM prog 163=some ([(0,1),(1,1)],[.int .i64 0,.int .i64 0])/\bM prog 173=some ([(0,1),(1,1),(2,1),(3,1),(4,1),(5,1),(6,1)],[.int .i64 0,.int .i64 0,.int .i64 0,.int .i64 0,.int .i64 0,.int .i64 0,.int .i64 0]):=by and_intros<;>kernel_rfl
@[go_sem] theorem T.abY:bM prog 179=some ([(0,1),(1,1),(2,2)],[.int .i64 0,.int .i64 0,.int .i64 0,.int .i64 0])/\bM prog 185=some ([(0,1),(1,1)],[.int .i64 0,.int .i64 0])/\bM prog 194=some ([(0,1),(1,1),(2,2),(4,2)],[.int .i64 0,.int .i64 0,.int .i64 0,.int .i64 0,.int .i64 0,.int .i64 0])/\bM prog 211=some ([(0,1),(1,1)],[.map none,.int .i64 0])/\bM prog 251=some ([(0,1),(1,1),(2,1),(3,1),(4,1)],[.int .i64 0,.int .i64 0,.int .i64 0,.bool false,.slice none 0 0])/\bM prog 28=some ([(0,1),(1,1),(2,1),(3,1),(4,1),(5,1)],[.slice none 0 0,.slice none 0 0,.slice none 0 0,.int .i64 0,.slice none 0 0,.slice none 0 0])/\bM prog 292=some ([(0,1),(1,1),(2,1),(3,1)],[.int .i64 0,.int .i64 0,.int .i64 0,.int .i64 0])/\bM prog 296=some ([(0,4),(4,1)],[.int .i64 0,.int .i64 0,.int .i64 0,.int .i64 0,.int .i64 0]):=by and_intros<;>kernel_rfl
@[go_sem] theorem T.abX:bM prog 367=some ([(0,1),(1,1),(2,1),(3,1),(4,1),(5,1),(6,1),(7,1),(8,1),(9,1),(10,1),(11,1),(12,1),(13,1),(14,1),(15,1),(16,1),(17,1),(18,1),(19,1),(20,1),(21,1),(22,1),(23,1),(24,1)],[.int .u64 0,.int .u64 0,.int .u64 0,.int .u64 0,.int .u64 0,.int .u64 0,.int .u64 0,.int .u64 0,.int .u64 0,.int .u64 0,.int .u64 0,.int .u64 0,.int .u64 0,.int .u64 0,.int .u64 0,.int .u64 0,.int .u64 0,.int .u64 0,.int .u64 0,.int .u64 0,.int .u64 0,.int .u64 0,.int .u64 0,.int .u64 0,.int .u64 0])/\bM prog 38=some ([(0,6),(6,1),(7,1),(8,1),(9,1),(10,1),(11,1),(12,1),(13,1),(14,1),(15,1)],[.slice none 0 0,.slice none 0 0,.slice none 0 0,.int .i64 0,.slice none 0 0,.slice none 0 0,.slice none 0 0,.slice none 0 0,.slice none 0 0,.slice none 0 0,.int .i64 0,.slice none 0 0,.slice none 0 0,.slice none 0 0,.slice none 0 0,.int .i64 0])/\bM prog 400=some ([(0,1),(1,1)],[.int .i64 0,.nilFunc])/\bM prog 409=some ([(0,1),(1,1),(2,1),(3,1),(4,1),(5,1),(6,1),(7,1),(8,1),(9,1),(10,1),(11,1),(12,1),(13,1),(14,1),(15,1),(16,1),(17,1),(18,1),(19,1),(20,1),(21,1),(22,1),(23,1)],[.int .u64 0,.int .u64 0,.int .u64 0,.int .u64 0,.int .u64 0,.int .u64 0,.int .u64 0,.int .u64 0,.int .u64 0,.int .u64 0,.int .u64 0,.int .u64 0,.int .u64 0,.int .u64 0,.int .u64 0,.int .u64 0,.int .u64 0,.int .u64 0,.int .u64 0,.int .u64 0,.int .u64 0,.int .u64 0,.int .u64 0,.int .u64 0])/\bM prog 411=some ([(0,1),(1,1),(2,1),(3,1),(4,1),(5,1),(6,1),(7,1),(8,1),(9,1),(10,1),(11,1),(12,1),(13,1),(14,1),(15,1),(16,1),(17,1),(18,1),(19,1),(20,1),(21,1),(22,1),(23,1),(24,1)],[.int .i64 0,.int .i64 0,.int .i64 0,.int .i64 0,.int .i64 0,.int .i64 0,.int .i64 0,.int .i64 0,.int .i64 0,.int .i64 0,.int .i64 0,.int .i64 0,.int .i64 0,.int .i64 0,.int .i64 0,.int .i64 0,.int .i64 0,.int .i64 0,.int .i64 0,.int .i64 0,.int .i64 0,.int .i64 0,.int .i64 0,.int .i64 0,.int .i64 0])/\bM prog 420=some ([(0,25),(25,1),(26,1)],[.int .u64 0,.int .u64 0,.int .u64 0,.int .u64 0,.int .u64 0,.int .u64 0,.int .u64 0,.int .u64 0,.int .u64 0,.int .u64 0,.int .u64 0,.int .u64 0,.int .u64 0,.int .u64 0,.int .u64 0,.int .u64 0,.int .u64 0,.int .u64 0,.int .u64 0,.int .u64 0,.int .u64 0,.int .u64 0,.int .u64 0,.int .u64 0,.int .u64 0,.string ⟨#[]⟩,.int .i64 0])/\bM prog 43=some ([(0,1),(1,1),(2,1),(3,1),(4,1)],[.int .i64 0,.int .i64 0,.int .i64 0,.slice none 0 0,.slice none 0 0])/\bM prog 441=some ([(0,1),(1,1),(2,1),(3,1),(4,1)],[.int .u64 0,.int .u64 0,.int .u64 0,.int .u64 0,.int .u64 0]):=by and_intros<;>kernel_rfl
@[go_sem] theorem T.abW:bM prog 481=some ([(0,1),(1,1)],[.nilFunc,.nilFunc])/\bM prog 511=some ([(0,1),(1,1),(2,1),(3,1),(4,1),(5,1),(6,1),(7,1),(8,1),(9,1),(10,1),(11,1)],[.int .i64 0,.int .i64 0,.int .i64 0,.int .i64 0,.int .i64 0,.int .i64 0,.int .i64 0,.int .i64 0,.int .i64 0,.int .i64 0,.int .i64 0,.int .i64 0])/\bM prog 54=some ([(0,1),(1,1),(2,1)],[.int .i64 0,.int .i64 0,.int .i64 0])/\bM prog 67=some ([(0,1),(1,1)],[.int .i64 0,.int .i64 0])/\bM prog 72=some ([(0,1),(1,1)],[.int .i64 0,.slice none 0 0])/\bM prog 75=some ([(0,1),(1,1),(2,1)],[.int .i64 0,.int .i64 0,.int .i64 0])/\bM prog 77=some ([(0,1),(1,1),(2,1),(3,1),(4,1),(5,1),(6,1),(7,1)],[.int .i64 0,.int .i64 0,.int .i64 0,.int .i64 0,.int .i64 0,.int .i64 0,.slice none 0 0,.slice none 0 0])/\bM prog 88=some ([(0,1),(1,1)],[.int .i64 0,.int .i64 0]):=by and_intros<;>kernel_rfl
@[go_sem] theorem T.ac6:bM prog 90=some ([(0,1),(1,2),(3,1),(4,1)],[.int .i64 0,.int .i64 0,.int .i64 0,.int .i64 0,.slice none 0 0])/\bM prog 99=some ([(0,1),(1,1),(2,1),(3,1)],[.int .i64 0,.int .i64 0,.int .i64 0,.int .i64 0])/\Z0 prog 358=true/\Z0 prog 446=true/\te prog 116=some (163,2)/\te prog 138=some (48,1)/\te prog 22=some (90,5)/\te prog 23=some (142,6):=by and_intros<;>kernel_rfl
@[go_sem] theorem T.af6:te prog 235=some (67,2)/\te prog 24=some (147,6)/\te prog 25=some (152,6)/\te prog 26=some (157,6)/\te prog 287=some (292,4)/\te prog 29=some (118,5)/\te prog 30=some (99,4)/\te prog 31=some (194,6):=by and_intros<;>kernel_rfl
@[go_sem] theorem T.agp:te prog 32=some (173,7)/\te prog 33=some (179,4)/\te prog 34=some (77,8)/\te prog 35=some (185,2)/\te prog 36=some (75,3)/\te prog 366=some (5,1)/\te prog 39=some (54,3)/\te prog 40=some (3,1):=by and_intros<;>kernel_rfl
@[go_sem] theorem T.ago:te prog 41=some (9,1)/\te prog 47=some (43,5)/\te prog 476=some (481,2)/\te prog 505=some (140,2)/\te prog 510=some (152,6)/\te prog 63=some (72,2)/\rU prog 116=some (163,2,16,[.int .i64 0,.int .i64 0])/\rU prog 138=some (48,1,8,[.int .i64 0]):=by and_intros<;>kernel_rfl
@[go_sem] theorem T.agn:rU prog 22=some (90,5,56,[.int .i64 0,.int .i64 0,.int .i64 0,.int .i64 0,.slice none 0 0])/\rU prog 23=some (142,6,48,[.int .i64 0,.int .i64 0,.int .i64 0,.bool false,.int .i64 0,.int .i64 0])/\rU prog 235=some (67,2,16,[.int .i64 0,.int .i64 0])/\rU prog 24=some (147,6,56,[.int .i64 0,.string ⟨#[]⟩,.int .i64 0,.int .i64 0,.int .i64 0,.int .i64 0])/\rU prog 249=some (296,5,40,[.int .i64 0,.int .i64 0,.int .i64 0,.int .i64 0,.int .i64 0])/\rU prog 25=some (152,6,48,[.int .i64 0,.int .i64 0,.int .i64 0,.bool false,.int .i64 0,.int .i64 0])/\rU prog 26=some (157,6,48,[.int .i64 0,.int .i64 0,.int .i64 0,.int .i64 0,.int .i64 0,.int .i64 0])/\rU prog 287=some (292,4,32,[.int .i64 0,.int .i64 0,.int .i64 0,.int .i64 0]):=by and_intros<;>kernel_rfl
@[go_sem] theorem T.agm:rU prog 29=some (118,5,56,[.int .i64 0,.int .i64 0,.int .i64 0,.int .i64 0,.slice none 0 0])/\rU prog 30=some (99,4,32,[.int .i64 0,.int .i64 0,.int .i64 0,.int .i64 0])/\rU prog 31=some (194,6,48,[.int .i64 0,.int .i64 0,.int .i64 0,.int .i64 0,.int .i64 0,.int .i64 0])/\rU prog 32=some (173,7,56,[.int .i64 0,.int .i64 0,.int .i64 0,.int .i64 0,.int .i64 0,.int .i64 0,.int .i64 0])/\rU prog 33=some (179,4,32,[.int .i64 0,.int .i64 0,.int .i64 0,.int .i64 0])/\rU prog 34=some (77,8,96,[.int .i64 0,.int .i64 0,.int .i64 0,.int .i64 0,.int .i64 0,.int .i64 0,.slice none 0 0,.slice none 0 0])/\rU prog 35=some (185,2,16,[.int .i64 0,.int .i64 0])/\rU prog 36=some (75,3,24,[.int .i64 0,.int .i64 0,.int .i64 0]):=by and_intros<;>kernel_rfl
@[go_sem] theorem T.af5:rU prog 366=some (5,1,1,[.int .u8 0])/\rU prog 39=some (54,3,24,[.int .i64 0,.int .i64 0,.int .i64 0])/\rU prog 40=some (3,1,8,[.int .i64 0])/\rU prog 41=some (9,1,16,[.string ⟨#[]⟩])/\rU prog 47=some (43,5,72,[.int .i64 0,.int .i64 0,.int .i64 0,.slice none 0 0,.slice none 0 0])/\rU prog 476=some (481,2,16,[.nilFunc,.nilFunc])/\rU prog 505=some (140,2,16,[.int .i64 0,.int .i64 0])/\rU prog 63=some (72,2,32,[.int .i64 0,.slice none 0 0]):=by and_intros<;>kernel_rfl
@[go_sem] theorem T.agl:rm prog 5=false/\rm prog 9=true/\eH prog 116=some (false,1)/\eH prog 118=some (true,5)/\eH prog 124=some (false,1)/\eH prog 126=some (true,5)/\eH prog 129=some (false,1)/\eH prog 140=some (true,2):=by and_intros<;>kernel_rfl
@[go_sem] theorem T.af4:eH prog 142=some (true,6)/\eH prog 147=some (true,6)/\eH prog 152=some (true,6)/\eH prog 157=some (true,6)/\eH prog 163=some (true,2)/\eH prog 173=some (true,7)/\eH prog 179=some (true,4)/\eH prog 185=some (true,2):=by and_intros<;>kernel_rfl
@[go_sem] theorem T.af3:eH prog 194=some (true,6)/\eH prog 208=some (false,1)/\eH prog 209=some (false,1)/\eH prog 22=some (false,1)/\eH prog 221=some (false,1)/\eH prog 23=some (false,1)/\eH prog 24=some (false,1)/\eH prog 249=some (false,1):=by and_intros<;>kernel_rfl
@[go_sem] theorem T.agk:eH prog 25=some (false,1)/\eH prog 251=some (true,5)/\eH prog 26=some (false,1)/\eH prog 270=some (false,1)/\eH prog 28=some (true,6)/\eH prog 287=some (false,1)/\eH prog 29=some (false,1)/\eH prog 292=some (true,4):=by and_intros<;>kernel_rfl
@[go_sem] theorem T.ahr:eH prog 3=some (false,1)/\eH prog 30=some (false,1)/\eH prog 301=some (false,1)/\eH prog 31=some (false,1)/\eH prog 315=some (false,1)/\eH prog 32=some (false,1)/\eH prog 33=some (false,1)/\eH prog 34=some (false,1):=by and_intros<;>kernel_rfl
@[go_sem] theorem T.agj:eH prog 35=some (false,1)/\eH prog 36=some (false,1)/\eH prog 366=some (false,1)/\eH prog 367=some (true,25)/\eH prog 369=some (false,1)/\eH prog 38=some (true,16)/\eH prog 39=some (false,1)/\eH prog 4=some (false,1):=by and_intros<;>kernel_rfl
@[go_sem] theorem T.agi:eH prog 40=some (false,1)/\eH prog 400=some (true,2)/\eH prog 409=some (true,24)/\eH prog 41=some (false,1)/\eH prog 411=some (true,25)/\eH prog 43=some (true,5)/\eH prog 441=some (true,5)/\eH prog 446=some (false,1):=by and_intros<;>kernel_rfl
@[go_sem] theorem T.af2:eH prog 478=some (false,1)/\eH prog 48=some (false,1)/\eH prog 481=some (true,2)/\eH prog 5=some (false,1)/\eH prog 505=some (false,1)/\eH prog 511=some (true,12)/\eH prog 54=some (true,3)/\eH prog 67=some (true,2):=by and_intros<;>kernel_rfl
@[go_sem] theorem T.agh:eH prog 75=some (true,3)/\eH prog 77=some (true,8)/\eH prog 88=some (true,2)/\eH prog 9=some (false,1)/\eH prog 90=some (true,5)/\eH prog 99=some (true,4)/\cI prog 118=some [.int .i64 0,.int .i64 0,.int .i64 0,.int .i64 0,.slice none 0 0]/\cI prog 126=some [.int .i64 0,.int .i64 0,.bool false,.int .i64 0,.nilFunc]:=by and_intros<;>kernel_rfl
@[go_sem] theorem T.aek:cI prog 140=some [.int .i64 0,.int .i64 0]/\cI prog 142=some [.int .i64 0,.int .i64 0,.int .i64 0,.bool false,.int .i64 0,.int .i64 0]/\cI prog 147=some [.int .i64 0,.string ⟨#[]⟩,.int .i64 0,.int .i64 0,.int .i64 0,.int .i64 0]/\cI prog 152=some [.int .i64 0,.int .i64 0,.int .i64 0,.bool false,.int .i64 0,.int .i64 0]/\cI prog 157=some [.int .i64 0,.int .i64 0,.int .i64 0,.int .i64 0,.int .i64 0,.int .i64 0]/\cI prog 163=some [.int .i64 0,.int .i64 0]/\cI prog 173=some [.int .i64 0,.int .i64 0,.int .i64 0,.int .i64 0,.int .i64 0,.int .i64 0,.int .i64 0]/\cI prog 179=some [.int .i64 0,.int .i64 0,.int .i64 0,.int .i64 0]:=by and_intros<;>kernel_rfl
@[go_sem] theorem T.aej:cI prog 185=some [.int .i64 0,.int .i64 0]/\cI prog 194=some [.int .i64 0,.int .i64 0,.int .i64 0,.int .i64 0,.int .i64 0,.int .i64 0]/\cI prog 208=some [.nilFunc]/\cI prog 221=some [.map none]/\cI prog 23=some [.slice none 0 0]/\cI prog 251=some [.int .i64 0,.int .i64 0,.int .i64 0,.bool false,.slice none 0 0]/\cI prog 28=some [.slice none 0 0,.slice none 0 0,.slice none 0 0,.int .i64 0,.slice none 0 0,.slice none 0 0]/\cI prog 287=some [.slice none 0 0]:=by and_intros<;>kernel_rfl
@[go_sem] theorem T.aei:cI prog 292=some [.int .i64 0,.int .i64 0,.int .i64 0,.int .i64 0]/\cI prog 3=some [.int .i64 0]/\cI prog 301=some [.nilFunc]/\cI prog 367=some [.int .u64 0,.int .u64 0,.int .u64 0,.int .u64 0,.int .u64 0,.int .u64 0,.int .u64 0,.int .u64 0,.int .u64 0,.int .u64 0,.int .u64 0,.int .u64 0,.int .u64 0,.int .u64 0,.int .u64 0,.int .u64 0,.int .u64 0,.int .u64 0,.int .u64 0,.int .u64 0,.int .u64 0,.int .u64 0,.int .u64 0,.int .u64 0,.int .u64 0]/\cI prog 369=some [.int .u64 0]/\cI prog 38=some [.slice none 0 0,.slice none 0 0,.slice none 0 0,.int .i64 0,.slice none 0 0,.slice none 0 0,.slice none 0 0,.slice none 0 0,.slice none 0 0,.slice none 0 0,.int .i64 0,.slice none 0 0,.slice none 0 0,.slice none 0 0,.slice none 0 0,.int .i64 0]/\cI prog 40=some [.slice none 0 0]/\cI prog 400=some [.int .i64 0,.nilFunc]:=by and_intros<;>kernel_rfl
@[go_sem] theorem T.aeh:cI prog 409=some [.int .u64 0,.int .u64 0,.int .u64 0,.int .u64 0,.int .u64 0,.int .u64 0,.int .u64 0,.int .u64 0,.int .u64 0,.int .u64 0,.int .u64 0,.int .u64 0,.int .u64 0,.int .u64 0,.int .u64 0,.int .u64 0,.int .u64 0,.int .u64 0,.int .u64 0,.int .u64 0,.int .u64 0,.int .u64 0,.int .u64 0,.int .u64 0]/\cI prog 411=some [.int .i64 0,.int .i64 0,.int .i64 0,.int .i64 0,.int .i64 0,.int .i64 0,.int .i64 0,.int .i64 0,.int .i64 0,.int .i64 0,.int .i64 0,.int .i64 0,.int .i64 0,.int .i64 0,.int .i64 0,.int .i64 0,.int .i64 0,.int .i64 0,.int .i64 0,.int .i64 0,.int .i64 0,.int .i64 0,.int .i64 0,.int .i64 0,.int .i64 0]/\cI prog 43=some [.int .i64 0,.int .i64 0,.int .i64 0,.slice none 0 0,.slice none 0 0]/\cI prog 441=some [.int .u64 0,.int .u64 0,.int .u64 0,.int .u64 0,.int .u64 0]/\cI prog 448=some [.pointer none,.slice none 0 0]/\cI prog 48=some [.int .i64 0]/\cI prog 481=some [.nilFunc,.nilFunc]/\cI prog 505=some [.slice none 0 0]:=by and_intros<;>kernel_rfl
@[go_sem] theorem T.aeg:cI prog 511=some [.int .i64 0,.int .i64 0,.int .i64 0,.int .i64 0,.int .i64 0,.int .i64 0,.int .i64 0,.int .i64 0,.int .i64 0,.int .i64 0,.int .i64 0,.int .i64 0]/\cI prog 54=some [.int .i64 0,.int .i64 0,.int .i64 0]/\cI prog 67=some [.int .i64 0,.int .i64 0]/\cI prog 75=some [.int .i64 0,.int .i64 0,.int .i64 0]/\cI prog 77=some [.int .i64 0,.int .i64 0,.int .i64 0,.int .i64 0,.int .i64 0,.int .i64 0,.slice none 0 0,.slice none 0 0]/\cI prog 88=some [.int .i64 0,.int .i64 0]/\cI prog 90=some [.int .i64 0,.int .i64 0,.int .i64 0,.int .i64 0,.slice none 0 0]/\cI prog 99=some [.int .i64 0,.int .i64 0,.int .i64 0,.int .i64 0]:=by and_intros<;>kernel_rfl
theorem T.afN:cG prog 124=true:=by kernel_rfl
theorem T.afM:cG prog 182=true:=by kernel_rfl
theorem T.afL:cG prog 245=true:=by kernel_rfl
theorem T.afK:cG prog 288=true:=by kernel_rfl
theorem T.afJ:cG prog 403=true:=by kernel_rfl
theorem T.afI:cG prog 404=true:=by kernel_rfl
theorem T.afH:cG prog 405=true:=by kernel_rfl
theorem T.afG:cG prog 408=true:=by kernel_rfl
theorem T.mixed:prog.follows .mixedOrders=true:=by kernel_rfl
theorem T.dr{Q:Exit->St->Prop}{s:St}{id:Nat}{ops:List Oper}(m:Nat)(h: ∀K:St->Prop,(∀s',Q .normal s'->K s')->bz prog true ops (ops.take m) s (Go.aI.Rest prog false ops (ops.drop m) K))(hok:(cO ops m&&Nat.ble m ops.length)=true:=by kernel_rfl):cV prog (.region id ops.toArray true) Q s:=KM m T.mixed hok h
variable (σ : List aZ)
structure Span where
 From:Int
 Until:Int
structure Rule where
 ID:Int
 Class:Int
 dE:Int
 C7:Bool
 In:Span
instance:Inhabited Rule:=⟨⟨0,0,0,false,⟨0,0⟩⟩⟩
def Span.enc(s:Span):List D:=[I s.From,I s.Until]
def Rule.enc(r:Rule):List D:=[I r.ID,I r.Class,I r.dE,B r.C7,I r.In.From,I r.In.Until]
attribute [go_sem] Span.enc Rule.enc
def jA(s:Span):Bool:=decide (0<=s.From)&&decide (s.From<s.Until)&&decide (s.Until<=1048576)
theorem CH(s):ak prog 346 [.agg (s.enc.map .d)] σ (.d (B (jA s))):=by
 refine ak.bt func346 ?_;refine af ?_;simp[go_sem,jA]<;>omega
def formed(r:Rule):Bool:=decide (1<=r.ID)&&decide (r.ID<=1073741824)&&decide (1<=r.Class)&&decide (r.Class<=999)&&decide (0<=r.dE)&&decide (r.dE<=200)&&jA r.In
theorem yg(r):ak prog 259 [.agg (r.enc.map .d)] σ (.d (B (formed r))):=by
 refine ak.bt func259 ?_;refine cE.mk (CH _ r.In) (sm ?_);refine af ?_;simp[go_sem,formed]<;>omega
theorem qy(c n g f cap p)(hn:n<1000000000)(hf: ∀i,i<n->ak prog f (.agg ((g i).enc.map .d)::cap) σ (.d (B (p (g i))))):ak prog 347 [.d (SL c 6 Rule.enc n g),.clo (.func f) [] cap] σ (.d (I (idxFrom p (lst n g) 0))):=by
 refine ak.bt func347 ?_;refine dm (α:=Nat) true [0,1,7,8] (fun i=>[(8,.d (I i))]) (fun i=>_) (fun i=>i<=n/\idxFrom p (lst n g) 0=idxFrom p ((lst n g).drop i) i) (fun i=>n-i) 0 ?_;rintro i ⟨hi,hx⟩;refine gc [0,1,7,8] ?_ ?_<;>intro d0
 ·rw[bU d0,idxFrom] at hx;refine wB ?_;refine az.mk (hf i d0) (sm ?_);refine km [0,1,5,7,8] ?_ ?_<;>intro c1 d1
  ·refine wA ?_;simp[go_sem,hx,c1]<;>omega
  ·refine wC ?_;refine bF (i+1) ⟨aa,ai⟩ (h:=aR)
 ·rw[bV d0,idxFrom] at hx;refine wN ?_;simp[go_sem,hx]<;>omega
theorem CF(c n g f cap p)(hn:n<1000000000)(hf: ∀i,i<n->ak prog f (.agg ((g i).enc.map .d)::cap) σ (.d (B (p (g i))))):ak prog 260 [.d (SL c 6 Rule.enc n g),.clo (.func f) [] cap] σ (.d (B ((lst n g).any p))):=by
 refine ak.bt func260 ?_;refine az.mk (qy _ c n g f cap p hn hf) (sm ?_);refine af ?_;simp[go_sem,gE]<;>omega
def clash(r o:Rule):Bool:=(o.Class==r.Class)&&decide (o.In.From<r.In.Until)&&decide (r.In.From<o.In.Until)
theorem vM(τ r o):ak prog 261 [.agg (o.enc.map .d),.ptr τ.length 0] (τ++ .var (r.enc.map .d)::σ) (.d (B (clash r o))):=by
 refine ak.bt func261 ?_;refine af ?_;simp[go_sem,clash]<;>omega
def vN(g:Nat->Rule)(i:Nat):Nat->Int
 |0=>0
 |k+1=>if formed (g i)=false then 2 else if(decide (0<i)&&decide ((g i).ID<=(g (i-1)).ID))=true then 5 else if(lst i g).any (clash (g i))=true then 6 else vN g (i+1) k
def check(n:Nat)(g:Nat->Rule):Int:=if 64<n then 8 else vN g 0 n
theorem il(c n g)(hn:n<1000000000):ak prog 183 [.d (SL c 6 Rule.enc n g)] σ (.d (I (check n g))):=by
 refine ak.bt func183 ?_;refine dH [0] ?_ ?_<;>intro d0
 ·refine wA ?_;simp[go_sem,check]<;>omega
 ·simp[go_sem];refine dm (α:=Nat) true [0,8,9,10] (fun i=>[(10,.d (I i))]) (fun i=>_) (fun i=>i<=n/\vN g 0 n=vN g i (n-i)) (fun i=>n-i) 0 ?_;rintro i ⟨hi,hx⟩;refine gc [0,8,9,10] ?_ ?_<;>intro d1
  ·obtain⟨k,hk⟩: ∃k,n-i=k+1:=⟨n-i-1,aa⟩;have hk':n-(i+1)=k:=aa;rw[hk,vN] at hx;refine wB ?_;refine az.mk (yg _ _) ?_;refine gc [0,3,4,8,9,10] ?_ ?_<;>intro d2
   ·refine wA ?_;simp[go_sem,check,hx,d2]<;>omega
   ·simp[go_sem];refine T.dr 14 fun K hK=> ?_;simp[go_sem,aT (i:=i) aa];refine wZ hK ?_;refine km [0,3,4,8,9,10] ?_ ?_<;>intro c3 d3
    ·refine wA ?_;simp[go_sem,check,hx,d2,d3]<;>omega
    ·simp[go_sem,hi];refine az.mk (CF _ _ i g _ _ (clash (g i)) aa (fun q hq=>vM [] σ (g i) (g q))) ?_;simp[go_sem];refine km [0,8,9,10] ?_ ?_<;>intro c4 d4
     ·refine wA ?_;simp[go_sem,check,hx,d2,c3,c4]<;>omega
     ·refine wC ?_;refine bF (i+1) ⟨aa,ai⟩ (h:=aR)
  ·obtain rfl:i=n:=by omega
   rw[Nat.sub_self,vN] at hx;refine wO ?_;simp[go_sem,check,hx]<;>omega
end Go.Proofs.YthpplckmbbachaaGreatDoor
