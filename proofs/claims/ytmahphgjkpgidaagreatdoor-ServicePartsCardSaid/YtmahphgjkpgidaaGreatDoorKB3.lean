/- Contracts and lemmas, joined out of smaller texts by a program; no conditions. -/
import Derived.KernelRfl
import Derived.Test.YtmahphgjkpgidaaGreatDoorKB2
import Derived.Test.YtmahphgjkpgidaaGreatDoorProg
set_option linter.unusedVariables false
set_option linter.unusedSimpArgs false
set_option maxHeartbeats 400000
set_option maxRecDepth 100000
namespace Go.aU
inductive Fr where
 |seq (y:Code)
 |block (id:Nat)
def post(P:Program):List Fr->(Exit->St->Prop)->Exit->St->Prop
 |[],Q=>Q
 | .seq y::k,Q=>zM (fA P y (post P k Q)) (post P k Q)
 | .block id::k,Q=>uQ id (post P k Q)
def Yj:Code->Nat
 | .seq x y=>Yj x+Yj y+3
 | .block _ x=>Yj x+3
 | .cond _ x y=>Yj x+Yj y+3
 |_=>2
def UA:List Fr->Nat
 |[]=>0
 | .seq y::k=>Yj y+1+UA k
 | .block _::k=>1+UA k
def LY:Code⊕Exit->Nat
 | .inl c=>Yj c
 | .inr _=>1
def Cnd(o:Option AV)(x y:St->Prop)(s:St):Prop:= ∃b s',o=some (.d (.v (.bool b)))/\Sub s s'/\(b=true->x s')/\(b=false->y s')
def Stp(b:Bool)(x y:Prop):Prop:=match b with|true=>x|false=>y
theorem DU(c:Code):2<=Yj c:=by cases c<;>simp[Yj]<;>omega
def wk(P:Program)(b:Bool)(Q:Exit->St->Prop)(c:Code⊕Exit)(k:List Fr)(s:St):Prop:=
 match c,k with
 | .inl (.seq x y),k=>wk P b Q (.inl x) (.seq y::k) s
 | .inl (.block id x),k=>wk P b Q (.inl x) (.block id::k) s
 | .inl .skip,k=>wk P b Q (.inr .normal) k s
 | .inl (.label _),k=>wk P b Q (.inr .normal) k s
 | .inl (.exit i),k=>wk P b Q (.inr (.exit i)) k s
 | .inl (.cond c x y),k=>Cnd (val s c) (fun s=>wk P b Q (.inl x) k s) (fun s=>wk P b Q (.inl y) k s) s
 | .inl (.region id ops false),k=>bH P false ops.toList ops.toList s fun s=>Stp b (wk P b Q (.inr .normal) k s) (post P k Q .normal s)
 | .inl c,k=>fA P c (post P k Q) s
 | .inr e,[]=>Q e s
 | .inr .normal,.seq y::k=>wk P b Q (.inl y) k s
 | .inr e,.seq y::k=>wk P b Q (.inr e) k s
 | .inr (.exit i),.block id::k=>if Nat.beq i id then wk P b Q (.inr .normal) k s else wk P b Q (.inr (.exit i)) k s
 | .inr e,.block id::k=>wk P b Q (.inr e) k s
termination_by LY c+UA k
decreasing_by all_goals simp_wf<;>simp[LY,Yj,UA]<;>(first|omega|(have:=DU x;have:=DU y;omega)|(have:=DU y;omega)|(have:=DU x;omega))
def Shows(P:Program)(Q:Exit->St->Prop)(k:List Fr)(s:St):Code⊕Exit->Prop
 | .inl c=>fA P c (post P k Q) s
 | .inr e=>post P k Q e s
theorem Yp{P:Program}{b:Bool}{Q:Exit->St->Prop} : ∀(n:Nat) {c:Code⊕Exit} {k:List Fr} {s:St},LY c+UA k<=n->wk P b Q c k s->Shows P Q k s c:=by
 intro n;induction n with
 |zero=>
  intro c k s hn h;exfalso;cases c with
  |inl c=>have:=DU c;simp[LY] at hn;omega
  |inr e=>simp[LY] at hn
 |succ n ih=>
  intro c k s hn h;cases c with
  |inl c=>
   have hp:=DU c;cases c with
   |skip=>rw[wk] at h;exact aX (ih (by simp[LY,Yj] at hn⊢;omega) h)
   |label l=>rw[wk] at h;exact awp_label (ih (by simp[LY,Yj] at hn⊢;omega) h)
   |exit i=>rw[wk] at h;exact fF (ih (by simp[LY,Yj] at hn⊢;omega) h)
   |seq x y=>rw[wk] at h;exact aK (ih (c:= .inl x) (by simp[LY,Yj,UA] at hn⊢;omega) h)
   |block id x=>rw[wk] at h;exact aS (ih (c:= .inl x) (by simp[LY,Yj,UA] at hn⊢;omega) h)
   |cond c x y=>
    rw[wk] at h;obtain⟨b,s',ho,hs,ht,hf⟩:=h;intro j0 j a w hr;have hv:=GR hr ho;have hb:a.eval c= .bool b:=by
     generalize a.eval c=u at hv
     cases hv with|d h=>cases h;rfl
    refine wpIn_cond hb ?_;cases b with
    |true=>exact jS hs (ih (c:= .inl x) (by simp[LY,Yj] at hn⊢;omega) (ht rfl)) j0 j a w hr
    |false=>exact jS hs (ih (c:= .inl y) (by simp[LY,Yj] at hn⊢;omega) (hf rfl)) j0 j a w hr
   |region id ops draw=>
    cases draw with
    |true=>rw[wk] at h;exact h;all_goals simp
    |false=>
     rw[wk] at h;show fA P (.region id ops false) (post P k Q) s
     have e:ops=ops.toList.toArray:=by simp
     rw[e];refine fA.mono (Gz (Q:=fun e s=>match e with| .normal=>Stp b (wk P b Q (.inr .normal) k s) (post P k Q .normal s)|_=>False) h) fun e s he=> ?_;cases e with
     |normal=>cases b with
      |true=>exact ih (c:= .inr .normal) (by simp[LY,Yj] at hn⊢;omega) he
      |false=>exact he
     |_=>exact he.elim
   |loop x=>rw[wk] at h;exact h;all_goals simp
   |rangeFunc f p x y=>rw[wk] at h;exact h;all_goals simp
   |scope x=>rw[wk] at h;exact h;all_goals simp
   |goto l=>rw[wk] at h;exact h;all_goals simp
   |ret=>rw[wk] at h;exact h;all_goals simp
   |refuse w=>rw[wk] at h;exact h;all_goals simp
  |inr e=>
   cases k with
   |nil=>rw[wk] at h;exact h
   |cons f k=>
    cases f with
    |seq y=>
     cases e with
     |normal=>rw[wk] at h;exact ih (c:= .inl y) (by simp[LY,UA] at hn⊢;omega) h
     |exit i=>rw[wk] at h;exact ih (c:= .inr (.exit i)) (k:=k) (by simp[LY,UA] at hn⊢;omega) h;all_goals simp
     |goto l=>rw[wk] at h;exact ih (c:= .inr (.goto l)) (k:=k) (by simp[LY,UA] at hn⊢;omega) h;all_goals simp
     |ret=>rw[wk] at h;exact ih (c:= .inr (.ret)) (k:=k) (by simp[LY,UA] at hn⊢;omega) h;all_goals simp
     |panic q=>rw[wk] at h;exact ih (c:= .inr (.panic q)) (k:=k) (by simp[LY,UA] at hn⊢;omega) h;all_goals simp
     |outgrown=>rw[wk] at h;exact ih (c:= .inr (.outgrown)) (k:=k) (by simp[LY,UA] at hn⊢;omega) h;all_goals simp
    |block id=>
     cases e with
     |exit i=>
      rw[wk] at h;show uQ id (post P k Q) (.exit i) s
      rw[IX];split at h
      ·rename_i h1;rw[if_pos h1];exact ih (c:= .inr .normal) (k:=k) (by simp[LY,UA] at hn⊢;omega) h
      ·rename_i h1;rw[if_neg h1];exact ih (c:= .inr (.exit i)) (k:=k) (by simp[LY,UA] at hn⊢;omega) h
     |normal=>rw[wk] at h;exact ih (c:= .inr .normal) (k:=k) (by simp[LY,UA] at hn⊢;omega) h;all_goals simp
     |goto l=>rw[wk] at h;exact ih (c:= .inr (.goto l)) (k:=k) (by simp[LY,UA] at hn⊢;omega) h;all_goals simp
     |ret=>rw[wk] at h;exact ih (c:= .inr .ret) (k:=k) (by simp[LY,UA] at hn⊢;omega) h;all_goals simp
     |panic q=>rw[wk] at h;exact ih (c:= .inr (.panic q)) (k:=k) (by simp[LY,UA] at hn⊢;omega) h;all_goals simp
     |outgrown=>rw[wk] at h;exact ih (c:= .inr .outgrown) (k:=k) (by simp[LY,UA] at hn⊢;omega) h;all_goals simp
section
variable {P : Program} {b : Bool} {Q : Exit -> St -> Prop} {N : Nat} {t : List (Nat × AV)} {σ : List aG} {mv : List Nat} {k : List Fr}
theorem go(b:Bool){c:Code}{s:St}(h:wk P b Q (.inl c) k s):fA P c (post P k Q) s:=Yp _ (Nat.le_refl _) h
theorem go0(b:Bool){c:Code}{s:St}(h:wk P b Q (.inl c) [] s):fA P c Q s:=Yp _ (Nat.le_refl _) h
theorem wk_skip:wk P b Q (.inl .skip) k ⟨N,t,σ,mv⟩=wk P b Q (.inr .normal) k ⟨N,t,σ,mv⟩:=by rw[wk]
theorem wk_label{l:Nat} :wk P b Q (.inl (.label l)) k ⟨N,t,σ,mv⟩=wk P b Q (.inr .normal) k ⟨N,t,σ,mv⟩:=by rw[wk]
theorem wk_exit{i:Nat} :wk P b Q (.inl (.exit i)) k ⟨N,t,σ,mv⟩=wk P b Q (.inr (.exit i)) k ⟨N,t,σ,mv⟩:=by rw[wk]
theorem wk_seq{x y:Code} :wk P b Q (.inl (.seq x y)) k ⟨N,t,σ,mv⟩=wk P b Q (.inl x) (.seq y::k) ⟨N,t,σ,mv⟩:=by rw[wk]
theorem wk_block{id:Nat}{x:Code} :wk P b Q (.inl (.block id x)) k ⟨N,t,σ,mv⟩=wk P b Q (.inl x) (.block id::k) ⟨N,t,σ,mv⟩:=by rw[wk]
theorem wk_cond{c:Operand}{x y:Code} :wk P b Q (.inl (.cond c x y)) k ⟨N,t,σ,mv⟩=Cnd (val ⟨N,t,σ,mv⟩ c) (fun s=>wk P b Q (.inl x) k s) (fun s=>wk P b Q (.inl y) k s) ⟨N,t,σ,mv⟩:=by rw[wk]
def Nx(P:Program)(b:Bool)(Q:Exit->St->Prop)(k:List Fr)(s:St):Prop:=Stp b (wk P b Q (.inr .normal) k s) (post P k Q .normal s)
theorem wk_reg{id:Nat}{ops:List Oper} :wk P b Q (.inl (.region id ops.toArray false)) k ⟨N,t,σ,mv⟩=bH P false ops ops ⟨N,t,σ,mv⟩ (Nx P b Q k):=by rw[wk];rfl
theorem wk_draw{id:Nat}{ops:Array Oper} :wk P b Q (.inl (.region id ops true)) k ⟨N,t,σ,mv⟩=fA P (.region id ops true) (post P k Q) ⟨N,t,σ,mv⟩:=by rw[wk];all_goals simp
theorem wk_ret:wk P b Q (.inl .ret) k ⟨N,t,σ,mv⟩=fA P .ret (post P k Q) ⟨N,t,σ,mv⟩:=by rw[wk];all_goals simp
theorem wk_loop{c:Code} :wk P b Q (.inl (.loop c)) k ⟨N,t,σ,mv⟩=fA P (.loop c) (post P k Q) ⟨N,t,σ,mv⟩:=by rw[wk];all_goals simp
theorem VU{f:Operand}{p:Array Tmp}{x y:Code} :wk P b Q (.inl (.rangeFunc f p x y)) k ⟨N,t,σ,mv⟩=fA P (.rangeFunc f p x y) (post P k Q) ⟨N,t,σ,mv⟩:=by rw[wk];all_goals simp
theorem wk_end{e:Exit} :wk P b Q (.inr e) [] ⟨N,t,σ,mv⟩=Q e ⟨N,t,σ,mv⟩:=by rw[wk]
theorem wk_then{y:Code} :wk P b Q (.inr .normal) (.seq y::k) ⟨N,t,σ,mv⟩=wk P b Q (.inl y) k ⟨N,t,σ,mv⟩:=by conv=>lhs;rw[wk]
theorem wk_past{y:Code}{i:Nat} :wk P b Q (.inr (.exit i)) (.seq y::k) ⟨N,t,σ,mv⟩=wk P b Q (.inr (.exit i)) k ⟨N,t,σ,mv⟩:=by rw[wk];all_goals simp
theorem wk_out{id:Nat} :wk P b Q (.inr .normal) (.block id::k) ⟨N,t,σ,mv⟩=wk P b Q (.inr .normal) k ⟨N,t,σ,mv⟩:=by rw[wk];all_goals simp
theorem wk_exits{id i:Nat} :wk P b Q (.inr (.exit i)) (.block id::k) ⟨N,t,σ,mv⟩=if Nat.beq i id then wk P b Q (.inr .normal) k ⟨N,t,σ,mv⟩ else wk P b Q (.inr (.exit i)) k ⟨N,t,σ,mv⟩:=by rw[wk]
theorem Nx_on:Nx P true Q k ⟨N,t,σ,mv⟩=wk P true Q (.inr .normal) k ⟨N,t,σ,mv⟩:=rfl
theorem Nx_off:Nx P false Q k ⟨N,t,σ,mv⟩=post P k Q .normal ⟨N,t,σ,mv⟩:=rfl
theorem post_end{e:Exit} :post P [] Q e ⟨N,t,σ,mv⟩=Q e ⟨N,t,σ,mv⟩:=rfl
theorem post_then{y:Code} :post P (.seq y::k) Q .normal ⟨N,t,σ,mv⟩=fA P y (post P k Q) ⟨N,t,σ,mv⟩:=rfl
theorem post_exit{y:Code}{i:Nat} :post P (.seq y::k) Q (.exit i) ⟨N,t,σ,mv⟩=post P k Q (.exit i) ⟨N,t,σ,mv⟩:=rfl
theorem post_ret{y:Code} :post P (.seq y::k) Q .ret ⟨N,t,σ,mv⟩=post P k Q .ret ⟨N,t,σ,mv⟩:=rfl
theorem post_out{id:Nat} :post P (.block id::k) Q .normal ⟨N,t,σ,mv⟩=post P k Q .normal ⟨N,t,σ,mv⟩:=rfl
theorem post_retb{id:Nat} :post P (.block id::k) Q .ret ⟨N,t,σ,mv⟩=post P k Q .ret ⟨N,t,σ,mv⟩:=rfl
theorem post_exits{id i:Nat} :post P (.block id::k) Q (.exit i) ⟨N,t,σ,mv⟩=if Nat.beq i id then post P k Q .normal ⟨N,t,σ,mv⟩ else post P k Q (.exit i) ⟨N,t,σ,mv⟩:=rfl
theorem Cnd_congr{o o':Option AV}{x y:St->Prop}{s:St}(h:o=o'):Cnd o x y s=Cnd o' x y s:=by rw[h]
theorem AWP_congr{c:Code}{s s':St}(h:s=s'):fA P c Q s=fA P c Q s':=by rw[h]
theorem wk_congr{c:Code⊕Exit}{s s':St}(h:s=s'):wk P b Q c k s=wk P b Q c k s':=by rw[h]
theorem Nx_congr{s s':St}(h:s=s'):Nx P b Q k s=Nx P b Q k s':=by rw[h]
theorem Rest_congr{dr:Bool}{all os:List Oper}{K:St->Prop}{s s':St}(h:s=s'):Rest P dr all os K s=Rest P dr all os K s':=by rw[h]
theorem cnd{x y:St->Prop}{o:Option AV}{b:Bool}(L:List Nat)(h:o=some (.d (.v (.bool b))))(ht:b=true->x ⟨N,bD L t,σ,mv⟩)(hf:b=false->y ⟨N,bD L t,σ,mv⟩):Cnd o x y ⟨N,t,σ,mv⟩:=
 ⟨b,⟨N,bD L t,σ,mv⟩,h,Less.sub ⟨rfl,fun _ h=>h,rfl,fun k av hk=>by
  simp only at hk;rw[iU] at hk;split at hk
  ·exact hk
  ·simp at hk⟩,ht,hf⟩
theorem cnd0{x y:St->Prop}{o:Option AV}{b:Bool}(h:o=some (.d (.v (.bool b))))(ht:b=true->x ⟨N,t,σ,mv⟩)(hf:b=false->y ⟨N,t,σ,mv⟩):Cnd o x y ⟨N,t,σ,mv⟩:=⟨b,_,h,Sub.refl _,ht,hf⟩
inductive Bk{α:Type}(N:Nat)(t:List (Nat×AV))(mv:List Nat)(upd:α->List (Nat×AV))(wZ:α->List aG)(ok:α->Prop)(μ:α->Nat)(x:α)(s:St):Prop
 |mk (x':α) (h1:Back ⟨N,puts t (upd x),wZ x,mv⟩ s ⟨N,puts t (upd x'),wZ x',mv⟩) (h2:ok x') (h3:μ x'<μ x)
 |no (h:False)
theorem Bk.get{α:Type}{upd:α->List (Nat×AV)}{wZ:α->List aG}{ok:α->Prop}{μ:α->Nat}{x:α}{s:St}(h:Bk N t mv upd wZ ok μ x s): ∃x',Back ⟨N,puts t (upd x),wZ x,mv⟩ s ⟨N,puts t (upd x'),wZ x',mv⟩/\ok x'/\μ x'<μ x:=by
 cases h with
 |mk x' h1 h2 h3=>exact⟨x',h1,h2,h3⟩
 |no h=>exact h.elim
theorem thenA_mono{X Y:St->Prop}{Z:Exit->St->Prop}(h: ∀s,X s->Y s){e:Exit}{s:St}(hx:zM X Z e s):zM Y Z e s:=by
 cases e with
 |normal=>exact h s hx
 |_=>exact hx
theorem Bk_congr{α:Type}{upd:α->List (Nat×AV)}{wZ:α->List aG}{ok:α->Prop}{μ:α->Nat}{x:α}{s s':St}(h:s=s'):Bk N t mv upd wZ ok μ x s=Bk N t mv upd wZ ok μ x s':=by rw[h]
theorem bk{α:Type}{upd:α->List (Nat×AV)}{wZ:α->List aG}{ok:α->Prop}{μ:α->Nat}{x:α}(x':α){t':List (Nat×AV)}{σ':List aG}{mv':List Nat}(h:VG (puts t (upd x)) (wZ x).length (puts t (upd x')) t')
  (hσ: ∃g,σ'=wZ x'++g) (hok:ok x') (hμ:μ x'<μ x) (hb:Leaves (wZ x) (wZ x')) (hm: ∀x∈mv',x∈mv:=by simp):Bk N t mv upd wZ ok μ x ⟨N,t',σ',mv'⟩:=
 .mk x' (dI hσ hb h hm) hok hμ
theorem lpU{c:Code}{α:Type}(b:Bool)(L M:List Nat)(upd:α->List (Nat×AV))(wZ:α->List aG)(ok:α->Prop)(μ:α->Nat)(x₀:α)(h0:Qj (upd x₀) (bD L t))(hσ:σ=wZ x₀)(hx₀:ok x₀)(hM: ∀x∈mv,x∈M)
  (round: ∀x,ok x->wk P b (zM (Bk N (bD L t) M upd wZ ok μ x) (post P k Q)) (.inl c) [] ⟨N,puts (bD L t) (upd x),wZ x,M⟩):fA P (.loop c) (post P k Q) ⟨N,t,σ,mv⟩:=
 bZ L rfl (zG M hM (dO upd wZ ok μ x₀ h0 hσ hx₀ fun x hx=>(go0 b (round x hx)).mono fun e s h=>thenA_mono (fun s h=>h.get) h))
theorem Pz{c:Code}{α:Type}(b:Bool)(L:List Nat)(upd:α->List (Nat×AV))(wZ:α->List aG)(ok:α->Prop)(μ:α->Nat)(x₀:α)(h0:Qj (upd x₀) (bD L t))(hσ:σ=wZ x₀)(hx₀:ok x₀)
  (round: ∀x,ok x->wk P b (zM (Bk N (bD L t) mv upd wZ ok μ x) (post P k Q)) (.inl c) [] ⟨N,puts (bD L t) (upd x),wZ x,mv⟩):fA P (.loop c) (post P k Q) ⟨N,t,σ,mv⟩:=
 lpU b L mv upd wZ ok μ x₀ h0 hσ hx₀ (fun _ h=>h) round
end
attribute [go_sem ↓] wk_skip wk_label wk_exit wk_seq wk_block wk_cond wk_reg wk_draw wk_ret wk_loop VU wk_end wk_then wk_past wk_out wk_exits Nx_on Nx_off post_end post_then post_exit post_ret post_out post_retb post_exits
attribute [go_sem] bD List.contains_cons List.contains_nil Bool.or_false Bool.or_true Bool.true_or Bool.false_or
attribute [congr] Cnd_congr AWP_congr wk_congr Nx_congr Rest_congr Bk_congr
section
variable {P : Program} {Q : Exit -> St -> Prop} {k : List Fr} {N : Nat} {t : List (Nat × AV)} {σ : List aG} {mv : List Nat}
theorem aJ{x y:St->Prop}{o:Option AV}{b:Bool}{D E:Prop}(L:List Nat)(ht:b=true->D->x ⟨N,bD L t,σ,mv⟩)(hf:b=false->E->y ⟨N,bD L t,σ,mv⟩)(h:o=some (.d (.v (.bool b))):=by exact rfl)(hD:b=true->D:=by intro h;first|(simp at h;exact h)|exact h)(hE:b=false->E:=by intro h;first|(simp at h;exact h)|exact h):Cnd o x y ⟨N,t,σ,mv⟩:=cnd L h (fun h=>ht h (hD h)) fun h=>hf h (hE h)
theorem fZ{x y:St->Prop}{o:Option AV}{b:Bool}{D E:Prop}(ht:b=true->D->x ⟨N,t,σ,mv⟩)(hf:b=false->E->y ⟨N,t,σ,mv⟩)(h:o=some (.d (.v (.bool b))):=by exact rfl)(hD:b=true->D:=by intro h;first|(simp at h;exact h)|exact h)(hE:b=false->E:=by intro h;first|(simp at h;exact h)|exact h):Cnd o x y ⟨N,t,σ,mv⟩:=cnd0 h (fun h=>ht h (hD h)) fun h=>hf h (hE h)
theorem jr{s:St}{c:Operand}{x y:Code}{b:Bool}{D E:Prop}(ht:b=true->D->fA P x Q s)(hf:b=false->E->fA P y Q s)(hc:val s c=some (.d (.v (.bool b))):=by exact rfl)(hD:b=true->D:=by intro h;first|(simp at h;exact h)|exact h)(hE:b=false->E:=by intro h;first|(simp at h;exact h)|exact h):fA P (.cond c x y) Q s:=DF hc (fun h=>ht h (hD h)) fun h=>hf h (hE h)
theorem cn{x y:St->Prop}{o:Option AV}{b:Bool}(L:List Nat)(h:o=some (.d (.v (.bool b))))(ht:b=true->b=true->x ⟨N,bD L t,σ,mv⟩)(hf:b=false->b=false->y ⟨N,bD L t,σ,mv⟩):Cnd o x y ⟨N,t,σ,mv⟩:=cnd L h (fun h=>ht h h) fun h=>hf h h
theorem cn0{x y:St->Prop}{o:Option AV}{b:Bool}(h:o=some (.d (.v (.bool b))))(ht:b=true->b=true->x ⟨N,t,σ,mv⟩)(hf:b=false->b=false->y ⟨N,t,σ,mv⟩):Cnd o x y ⟨N,t,σ,mv⟩:=cnd0 h (fun h=>ht h h) fun h=>hf h h
theorem acn{s:St}{c:Operand}{x y:Code}{b:Bool}(hc:val s c=some (.d (.v (.bool b))))(ht:b=true->b=true->fA P x Q s)(hf:b=false->b=false->fA P y Q s):fA P (.cond c x y) Q s:=DF hc (fun h=>ht h h) fun h=>hf h h
theorem gB{α:Type}{upd:α->List (Nat×AV)}{wZ:α->List aG}{ok:α->Prop}{μ:α->Nat}{x:α}(x':α){t':List (Nat×AV)}{σ':List aG}{mv':List Nat}(hok:ok x')(h:VG (puts t (upd x)) (wZ x).length (puts t (upd x')) t':=by simp[go_sem]<;>omega)
  (hσ: ∃g,σ'=wZ x'++g:=by simp) (hμ:μ x'<μ x:=by first|omega|(dsimp only;omega)) (hb:Leaves (wZ x) (wZ x'):=by exact .refl _) (hm: ∀x∈mv',x∈mv:=by simp):Bk N t mv upd wZ ok μ x ⟨N,t',σ',mv'⟩:=bk x' h hσ hok hμ hb hm
theorem kQ{c:Code}{α:Type}(b:Bool)(L:List Nat)(upd:α->List (Nat×AV))(wZ:α->List aG)(ok:α->Prop)(μ:α->Nat)(x₀:α)
  (round: ∀x,ok x->wk P b (zM (Bk N (bD L t) mv upd wZ ok μ x) (post P k Q)) (.inl c) [] ⟨N,puts (bD L t) (upd x),wZ x,mv⟩) (hx:ok x₀:=by simp) (h0:Qj (upd x₀) (bD L t):=by simp[go_sem]) (hσ:σ=wZ x₀:=by exact rfl):fA P (.loop c) (post P k Q) ⟨N,t,σ,mv⟩:=Pz b L upd wZ ok μ x₀ h0 hσ hx round
end
section
variable {P : Program} {f : FuncId} {fn : Func} {c : Code} {args : List AV} {σ : List aG} {r : AV} {Q : AV -> List aG -> Prop} {R : AV -> List aG -> List Nat -> Prop}
theorem aA.be(hf:P.funcs[f]? =some fn)(h:lS σ->fA P c (BN P fn σ r) (St.init fn.ntmps args σ))(hen:dX P f=true:=by kernel_rfl)(hb:fn.body=some c:=by exact rfl)(hN:Nat.ble args.length fn.ntmps=true:=by exact rfl)(hr:r.under σ.length:=by simp[go_sem]):aA P f args σ r:=aA.Px hen hf hb (Nat.le_of_ble_eq_true hN) hr h
theorem aA.bd(b:Bool)(hf:P.funcs[f]? =some fn)(h:lS σ->wk P b (BN P fn σ r) (.inl c) [] (St.init fn.ntmps args σ))(hen:dX P f=true:=by kernel_rfl)(hb:fn.body=some c:=by exact rfl)(hN:Nat.ble args.length fn.ntmps=true:=by exact rfl)(hr:r.under σ.length:=by simp[go_sem]):aA P f args σ r:=aA.Px hen hf hb (Nat.le_of_ble_eq_true hN) hr fun w=>go0 b (h w)
theorem CS.beD(X:List Nat)(hf:P.funcs[f]? =some fn)(h:lS σ->fA P c (BO P fn σ X Q) (St.init fn.ntmps args σ))(hen:dX P f=true:=by kernel_rfl)(hb:fn.body=some c:=by exact rfl)(hN:Nat.ble args.length fn.ntmps=true:=by exact rfl):CS P f args σ fun r σ' X'=>X'=X/\Q r σ':=CS.Zm X hen hf hb (Nat.le_of_ble_eq_true hN) h
theorem CS.bdD(b:Bool)(X:List Nat)(hf:P.funcs[f]? =some fn)(h:lS σ->wk P b (BO P fn σ X Q) (.inl c) [] (St.init fn.ntmps args σ))(hen:dX P f=true:=by kernel_rfl)(hb:fn.body=some c:=by exact rfl)(hN:Nat.ble args.length fn.ntmps=true:=by exact rfl):CS P f args σ fun r σ' X'=>X'=X/\Q r σ':=CS.Zm X hen hf hb (Nat.le_of_ble_eq_true hN) fun w=>go0 b (h w)
theorem CS.beW(hf:P.funcs[f]? =some fn)(h:lS σ->fA P c (DZ P fn R) (St.init fn.ntmps args σ))(hen:dX P f=true:=by kernel_rfl)(hb:fn.body=some c:=by exact rfl)(hN:Nat.ble args.length fn.ntmps=true:=by exact rfl):CS P f args σ R:=CS.Zl hen hf hb (Nat.le_of_ble_eq_true hN) h
theorem CS.VD(b:Bool)(hf:P.funcs[f]? =some fn)(h:lS σ->wk P b (DZ P fn R) (.inl c) [] (St.init fn.ntmps args σ))(hen:dX P f=true:=by kernel_rfl)(hb:fn.body=some c:=by exact rfl)(hN:Nat.ble args.length fn.ntmps=true:=by exact rfl):CS P f args σ R:=CS.Zl hen hf hb (Nat.le_of_ble_eq_true hN) fun w=>go0 b (h w)
end
theorem sm{G H:Prop}(h:H)(e:H->G:=by intro h;simp[go_sem];exact h):G:=e h
theorem sc{G:Prop}(e:G:=by simp[go_sem]):G:=e
theorem so{G:Prop}(e:G:=by simp[go_sem]<;>omega):G:=e
section
variable {P : Program} {f : FuncId} {fn : Func} {c : Code} {args : List AV} {σ : List aG} {r : AV} {Q : AV -> List aG -> Prop} {R : AV -> List aG -> List Nat -> Prop} {H : Prop}
theorem aA.bs(b:Bool)(hf:P.funcs[f]? =some fn)(h:lS σ->H)(hen:dX P f=true:=by kernel_rfl)(hb:fn.body=some c:=by exact rfl)(hN:Nat.ble args.length fn.ntmps=true:=by exact rfl)(hr:r.under σ.length:=by simp[go_sem])(e:H->wk P b (BN P fn σ r) (.inl c) [] (St.init fn.ntmps args σ):=by intro h;simp[go_sem];exact h):aA P f args σ r:=aA.bd b hf (fun w=>e (h w)) hen hb hN hr
theorem CS.NT(b:Bool)(X:List Nat)(hf:P.funcs[f]? =some fn)(h:lS σ->H)(hen:dX P f=true:=by kernel_rfl)(hb:fn.body=some c:=by exact rfl)(hN:Nat.ble args.length fn.ntmps=true:=by exact rfl)(e:H->wk P b (BO P fn σ X Q) (.inl c) [] (St.init fn.ntmps args σ):=by intro h;simp[go_sem];exact h):CS P f args σ fun r σ' X'=>X'=X/\Q r σ':=CS.bdD b X hf (fun w=>e (h w)) hen hb hN
theorem CS.bsW(b:Bool)(hf:P.funcs[f]? =some fn)(h:lS σ->H)(hen:dX P f=true:=by kernel_rfl)(hb:fn.body=some c:=by exact rfl)(hN:Nat.ble args.length fn.ntmps=true:=by exact rfl)(e:H->wk P b (DZ P fn R) (.inl c) [] (St.init fn.ntmps args σ):=by intro h;simp[go_sem];exact h):CS P f args σ R:=CS.VD b hf (fun w=>e (h w)) hen hb hN
end
theorem aF{P:Program}{c:Code}{Q:Exit->St->Prop}{N:Nat}{t t':List (Nat×AV)}{pY σ σ':List aG}{mv:List Nat}{sz n':Nat}{row:Nat->List D}(w:lS pY)(b:Nat)(h:fA P c Q ⟨N,t',σ',b::mv⟩)(hb:σ[b]? =some (.arr sz n' row):=by simp[go_sem];first|exact⟨rfl,rfl,rfl⟩|exact⟨rfl,rfl⟩|exact rfl)(ht:Gl b sz n' row t=t':=by simp[go_sem];rfl)
  (hσ:(∀k sz n' row,pY.map (O1 (pY.length+k) sz n' row)=pY)->(∀sz n' row,pY.map (O1 pY.length sz n' row)=pY)->aag b sz n' row σ=σ':=by intro h1 h2;simp[go_sem,h1,h2];rfl):fA P c Q ⟨N,t,σ,mv⟩:=bK b hb ht (hσ w.sZ w.qH) h
theorem tq{P:Program}{c:Code}{Q:Exit->St->Prop}{N:Nat}{t t':List (Nat×AV)}{σ:List aG}{mv:List Nat}(L:List Nat)(h':fA P c Q ⟨N,t',σ,mv⟩)(h:bD L t=t':=by simp only[bD,List.contains_cons,List.contains_nil,Nat.reduceBEq,Bool.or_false,Bool.or_true,Bool.true_or,Bool.false_or,if_true,if_false,Bool.false_eq_true];rfl):fA P c Q ⟨N,t,σ,mv⟩:=bZ L h h'
theorem nP{A B:Prop}(h:A)(e:A->B:=by intro h;simp only[List.append_assoc,List.cons_append,List.nil_append,List.length_append,List.length_cons,List.length_nil,Nat.zero_add,Nat.reduceAdd] at h;exact h):B:=e h
theorem nA{A B:Prop}(h:A)(e:A->B:=by intro h;simp only[List.append_assoc,List.cons_append,List.nil_append,List.length_append,List.length_cons,List.length_nil,Nat.zero_add,Nat.add_assoc,Nat.reduceAdd] at h;exact h):B:=e h
theorem nT{A B:Prop}(h:A)(e:A->B:=by intro h;(try simp only[List.append_assoc,List.cons_append,List.nil_append,List.length_append,List.length_cons,List.length_nil,Nat.zero_add,Nat.add_assoc,Nat.reduceAdd] at h);exact h):B:=e h
theorem wS(i:Nat)(h:i<1000000000:=by omega):IntKind.i64.wrap ((i:Int)+1)=((i+1:Nat):Int):=wrap_succ h
end Go.aU
namespace Go.Proofs.YtmahphgjkpgidaaGreatDoor
open Go.aU Go.Proofs.Tryz
@[go_sem] theorem T.arA_421:arA prog 421=some (25,1)/\arA prog 472=some (25,1)/\arA prog 492=some (5,1)/\arA prog 501=some (32,1)/\arA prog 502=some (64,1)/\arV prog 421=some (25,false,1)/\arV prog 469=some (12,false,1)/\arV prog 474=some (24,false,1):=by and_intros<;>kernel_rfl
@[go_sem] theorem T.boolT_4:boolT prog 4=true/\nM prog 222=none/\nM prog 259=none/\nM prog 261=none/\nM prog 3=none/\nM prog 354=none/\nM prog 425=some 5/\nM prog 449=none:=by and_intros<;>kernel_rfl
@[go_sem] theorem T.bytesT_494:nM prog 494=none/\nM prog 5=none/\nM prog 9=none/\eqA prog 111=some [.i,.i]/\eqA prog 125=some [.i,.i,.i,.i,.i,.i]/\eqA prog 157=some [.i,.i]/\eqA prog 159=some [.i,.i,.i,.i,.i,.i,.i]/\eqA prog 161=some [.i,.i]:=by and_intros<;>kernel_rfl
@[go_sem] theorem T.eqA_165:eqA prog 165=some [.i,.i,.i,.b,.i,.i]/\eqA prog 168=some [.i,.s,.i,.i,.i,.i]/\eqA prog 171=some [.i,.i,.i,.b,.i,.i]/\eqA prog 174=some [.i,.i,.i,.i,.i,.i]/\eqA prog 76=some [.i,.i]/\eqA prog 81=some [.i,.i,.i,.i]/\eqA prog 84=some [.i,.i,.i]/\eqA prog 94=some [.i,.i,.i,.i]:=by and_intros<;>kernel_rfl
@[go_sem] theorem T.fieldA_100_0:aI prog 100 0=some 0/\aI prog 100 1=some 1/\aI prog 100 2=some 2/\aI prog 100 3=some 3/\aI prog 100 4=some 4/\aI prog 100 5=some 5/\aI prog 100 6=some 6/\aI prog 100 7=some 7:=by and_intros<;>kernel_rfl
@[go_sem] theorem T.fieldA_111_0:aI prog 111 0=some 0/\aI prog 111 1=some 1/\aI prog 113 0=some 0/\aI prog 113 1=some 1/\aI prog 113 2=some 3/\aI prog 113 3=some 4/\aI prog 125 0=some 0/\aI prog 125 1=some 1:=by and_intros<;>kernel_rfl
@[go_sem] theorem T.fieldA_125_2:aI prog 125 2=some 2/\aI prog 125 3=some 4/\aI prog 145 0=some 0/\aI prog 145 1=some 1/\aI prog 145 2=some 2/\aI prog 145 3=some 3/\aI prog 145 4=some 4/\aI prog 150 0=some 0:=by and_intros<;>kernel_rfl
@[go_sem] theorem T.fieldA_150_1:aI prog 150 1=some 16/\aI prog 150 2=some 17/\aI prog 157 0=some 0/\aI prog 157 1=some 1/\aI prog 159 0=some 0/\aI prog 159 1=some 1/\aI prog 159 2=some 2/\aI prog 159 3=some 3:=by and_intros<;>kernel_rfl
@[go_sem] theorem T.fieldA_159_4:aI prog 159 4=some 4/\aI prog 159 5=some 5/\aI prog 159 6=some 6/\aI prog 161 0=some 0/\aI prog 161 1=some 1/\aI prog 165 0=some 0/\aI prog 165 1=some 1/\aI prog 165 2=some 2:=by and_intros<;>kernel_rfl
@[go_sem] theorem T.fieldA_165_3:aI prog 165 3=some 3/\aI prog 165 4=some 4/\aI prog 168 0=some 0/\aI prog 168 1=some 1/\aI prog 168 2=some 2/\aI prog 168 3=some 4/\aI prog 171 0=some 0/\aI prog 171 1=some 1:=by and_intros<;>kernel_rfl
@[go_sem] theorem T.fieldA_171_2:aI prog 171 2=some 2/\aI prog 171 3=some 3/\aI prog 171 4=some 4/\aI prog 174 0=some 0/\aI prog 174 1=some 1/\aI prog 174 2=some 2/\aI prog 174 3=some 3/\aI prog 174 4=some 4:=by and_intros<;>kernel_rfl
@[go_sem] theorem T.fieldA_187_0:aI prog 187 0=some 0/\aI prog 187 1=some 1/\aI prog 197 0=some 0/\aI prog 197 1=some 1/\aI prog 197 2=some 2/\aI prog 197 3=some 3/\aI prog 232 0=some 0/\aI prog 28 0=some 0:=by and_intros<;>kernel_rfl
@[go_sem] theorem T.fieldA_28_1:aI prog 28 1=some 1/\aI prog 28 2=some 2/\aI prog 28 3=some 3/\aI prog 28 4=some 4/\aI prog 28 5=some 5/\aI prog 38 0=some 0/\aI prog 38 1=some 6/\aI prog 38 10=some 15:=by and_intros<;>kernel_rfl
@[go_sem] theorem T.fieldA_38_2:aI prog 38 2=some 7/\aI prog 38 3=some 8/\aI prog 38 4=some 9/\aI prog 38 5=some 10/\aI prog 38 6=some 11/\aI prog 38 7=some 12/\aI prog 38 8=some 13/\aI prog 38 9=some 14:=by and_intros<;>kernel_rfl
@[go_sem] theorem T.fieldA_404_0:aI prog 404 0=some 0/\aI prog 404 1=some 1/\aI prog 423 0=some 0/\aI prog 423 1=some 25/\aI prog 423 2=some 26/\aI prog 43 1=some 1/\aI prog 43 2=some 2/\aI prog 43 3=some 3:=by and_intros<;>kernel_rfl
@[go_sem] theorem T.fieldA_43_4:aI prog 43 4=some 4/\aI prog 451 0=some 0/\aI prog 451 1=some 1/\aI prog 54 0=some 0/\aI prog 54 1=some 1/\aI prog 54 2=some 2/\aI prog 69 0=some 0/\aI prog 69 1=some 1:=by and_intros<;>kernel_rfl
@[go_sem] theorem T.fieldA_73_0:aI prog 73 0=some 0/\aI prog 73 1=some 1/\aI prog 73 2=some 2/\aI prog 73 3=some 3/\aI prog 73 4=some 4/\aI prog 76 0=some 0/\aI prog 76 1=some 1/\aI prog 81 0=some 0:=by and_intros<;>kernel_rfl
@[go_sem] theorem T.fieldA_81_1:aI prog 81 1=some 1/\aI prog 81 2=some 2/\aI prog 81 3=some 3/\aI prog 84 0=some 0/\aI prog 84 1=some 1/\aI prog 84 2=some 2/\aI prog 87 3=some 3/\aI prog 87 4=some 4:=by and_intros<;>kernel_rfl
@[go_sem] theorem T.fieldA_92_0:aI prog 92 0=some 0/\aI prog 92 1=some 1/\aI prog 94 0=some 0/\aI prog 94 1=some 1/\aI prog 94 2=some 2/\I8 prog 38 0=some (0,true,6)/\I8 prog 76 0=some (0,false,1)/\AU prog 222=some .u64:=by and_intros<;>kernel_rfl
@[go_sem] theorem T.intT_259:AU prog 259=some .u32/\AU prog 261=some .u64/\AU prog 3=some .i64/\AU prog 354=some .u64/\AU prog 425=none/\AU prog 449=none/\AU prog 494=none/\AU prog 5=some .u8:=by and_intros<;>kernel_rfl
@[go_sem] theorem T.intT_9:AU prog 9=none/\iJ prog 194=false/\iJ prog 207=false/\iJ prog 22=false/\iJ prog 227=false/\iJ prog 23=false/\iJ prog 24=false/\iJ prog 25=false:=by and_intros<;>kernel_rfl
@[go_sem] theorem T.isArr_26:iJ prog 26=false/\iJ prog 29=false/\iJ prog 30=false/\iJ prog 31=false/\iJ prog 32=false/\iJ prog 33=false/\iJ prog 34=false/\iJ prog 35=false:=by and_intros<;>kernel_rfl
@[go_sem] theorem T.isArr_36:iJ prog 36=false/\iJ prog 369=false/\iJ prog 376=false/\iJ prog 39=false/\iJ prog 40=false/\iJ prog 41=false/\iJ prog 421=true/\iJ prog 425=false:=by and_intros<;>kernel_rfl
@[go_sem] theorem T.isArr_47:iJ prog 47=false/\iJ prog 472=true/\iJ prog 492=true/\iJ prog 501=true/\iJ prog 502=true/\iJ prog 64=false/\iJ prog 71=false/\dW prog 111=false:=by and_intros<;>kernel_rfl
@[go_sem] theorem T.isSlT_125:dW prog 125=false/\dW prog 157=false/\dW prog 159=false/\dW prog 161=false/\dW prog 165=false/\dW prog 168=false/\dW prog 171=false/\dW prog 174=false:=by and_intros<;>kernel_rfl
@[go_sem] theorem T.isSlT_21:dW prog 21=false/\dW prog 22=true/\dW prog 222=false/\dW prog 23=true/\dW prog 24=true/\dW prog 25=true/\dW prog 251=false/\dW prog 259=false:=by and_intros<;>kernel_rfl
@[go_sem] theorem T.isSlT_26:dW prog 26=true/\dW prog 261=false/\dW prog 29=true/\dW prog 3=false/\dW prog 30=true/\dW prog 31=true/\dW prog 32=true/\dW prog 33=true:=by and_intros<;>kernel_rfl
@[go_sem] theorem T.isSlT_34:dW prog 34=true/\dW prog 345=false/\dW prog 35=true/\dW prog 354=false/\dW prog 36=true/\dW prog 39=true/\dW prog 4=false/\dW prog 40=true:=by and_intros<;>kernel_rfl
@[go_sem] theorem T.isSlT_41:dW prog 41=true/\dW prog 449=false/\dW prog 47=true/\dW prog 48=false/\dW prog 5=false/\dW prog 71=true/\dW prog 76=false/\dW prog 81=false:=by and_intros<;>kernel_rfl
@[go_sem] theorem T.isSlT_84:dW prog 84=false/\dW prog 9=false/\dW prog 94=false/\jc prog 194=1/\jc prog 207=1/\jc prog 22=1/\jc prog 227=1/\jc prog 23=1:=by and_intros<;>kernel_rfl
@[go_sem] theorem T.lenT_24:jc prog 24=1/\jc prog 25=1/\jc prog 26=1/\jc prog 29=1/\jc prog 3=0/\jc prog 30=1/\jc prog 31=1/\jc prog 32=1:=by and_intros<;>kernel_rfl
@[go_sem] theorem T.lenT_33:jc prog 33=1/\jc prog 34=1/\jc prog 35=1/\jc prog 36=1/\jc prog 369=1/\jc prog 376=1/\jc prog 39=1/\jc prog 40=1:=by and_intros<;>kernel_rfl
@[go_sem] theorem T.lenT_41:jc prog 41=1/\jc prog 425=1/\jc prog 47=1/\jc prog 64=1/\jc prog 71=1/\jc prog 85=1/\jc prog 9=2/\AQ prog 185=some (false,.agg [.d (.v (.int .i64 0)),.d (.v (.int .i64 0))]):=by and_intros<;>kernel_rfl
@[go_sem] theorem T.mapT_214:AQ prog 214=some (false,.agg [.d (.v (.int .i64 0)),.d (.v (.int .i64 0)),.d (.v (.bool false)),.d (.v (.int .i64 0)),.d (.v (.nilFunc))])/\AQ prog 238=some (false,.d (.v (.bool false)))/\AQ prog 67=some (false,.d (.v (.int .i64 0)))/\bM prog 100=some ([(0,1),(1,1),(2,1),(3,1),(4,1),(5,1),(6,1),(7,1)],[.int .i64 0,.int .i64 0,.int .i64 0,.int .i64 0,.int .i64 0,.int .i64 0,.slice none 0 0,.slice none 0 0])/\bM prog 111=some ([(0,1),(1,1)],[.int .i64 0,.int .i64 0])/\bM prog 113=some ([(0,1),(1,2),(3,1),(4,1)],[.int .i64 0,.int .i64 0,.int .i64 0,.int .i64 0,.slice none 0 0])/\bM prog 125=some ([(0,1),(1,1),(2,2),(4,2)],[.int .i64 0,.int .i64 0,.int .i64 0,.int .i64 0,.int .i64 0,.int .i64 0])/\bM prog 145=some ([(0,1),(1,1),(2,1),(3,1),(4,1)],[.int .i64 0,.int .i64 0,.bool false,.int .i64 0,.nilFunc]):=by and_intros<;>kernel_rfl
@[go_sem] theorem T.placesA_150:bM prog 150=some ([(0,16),(16,1),(17,5)],[.slice none 0 0,.slice none 0 0,.slice none 0 0,.int .i64 0,.slice none 0 0,.slice none 0 0,.slice none 0 0,.slice none 0 0,.slice none 0 0,.slice none 0 0,.int .i64 0,.slice none 0 0,.slice none 0 0,.slice none 0 0,.slice none 0 0,.int .i64 0,.slice none 0 0,.int .i64 0,.int .i64 0,.int .i64 0,.slice none 0 0,.slice none 0 0])/\bM prog 157=some ([(0,1),(1,1)],[.int .i64 0,.int .i64 0])/\bM prog 159=some ([(0,1),(1,1),(2,1),(3,1),(4,1),(5,1),(6,1)],[.int .i64 0,.int .i64 0,.int .i64 0,.int .i64 0,.int .i64 0,.int .i64 0,.int .i64 0])/\bM prog 161=some ([(0,1),(1,1)],[.int .i64 0,.int .i64 0])/\bM prog 165=some ([(0,1),(1,1),(2,1),(3,1),(4,2)],[.int .i64 0,.int .i64 0,.int .i64 0,.bool false,.int .i64 0,.int .i64 0])/\bM prog 168=some ([(0,1),(1,1),(2,2),(4,2)],[.int .i64 0,.string ⟨#[]⟩,.int .i64 0,.int .i64 0,.int .i64 0,.int .i64 0])/\bM prog 171=some ([(0,1),(1,1),(2,1),(3,1),(4,2)],[.int .i64 0,.int .i64 0,.int .i64 0,.bool false,.int .i64 0,.int .i64 0])/\bM prog 174=some ([(0,1),(1,1),(2,1),(3,1),(4,2)],[.int .i64 0,.int .i64 0,.int .i64 0,.int .i64 0,.int .i64 0,.int .i64 0]):=by and_intros<;>kernel_rfl
@[go_sem] theorem T.placesA_187:bM prog 187=some ([(0,1),(1,1)],[.map none,.int .i64 0])/\bM prog 197=some ([(0,1),(1,1),(2,1),(3,1)],[.int .i64 0,.int .i64 0,.int .i64 0,.int .i64 0])/\bM prog 202=some ([(0,4),(4,1)],[.int .i64 0,.int .i64 0,.int .i64 0,.int .i64 0,.int .i64 0])/\bM prog 232=some ([(0,1),(1,1)],[.nilFunc,.nilFunc])/\bM prog 28=some ([(0,1),(1,1),(2,1),(3,1),(4,1),(5,1)],[.slice none 0 0,.slice none 0 0,.slice none 0 0,.int .i64 0,.slice none 0 0,.slice none 0 0])/\bM prog 38=some ([(0,6),(6,1),(7,1),(8,1),(9,1),(10,1),(11,1),(12,1),(13,1),(14,1),(15,1)],[.slice none 0 0,.slice none 0 0,.slice none 0 0,.int .i64 0,.slice none 0 0,.slice none 0 0,.slice none 0 0,.slice none 0 0,.slice none 0 0,.slice none 0 0,.int .i64 0,.slice none 0 0,.slice none 0 0,.slice none 0 0,.slice none 0 0,.int .i64 0])/\bM prog 404=some ([(0,1),(1,1)],[.int .i64 0,.nilFunc])/\bM prog 423=some ([(0,25),(25,1),(26,1)],[.int .u64 0,.int .u64 0,.int .u64 0,.int .u64 0,.int .u64 0,.int .u64 0,.int .u64 0,.int .u64 0,.int .u64 0,.int .u64 0,.int .u64 0,.int .u64 0,.int .u64 0,.int .u64 0,.int .u64 0,.int .u64 0,.int .u64 0,.int .u64 0,.int .u64 0,.int .u64 0,.int .u64 0,.int .u64 0,.int .u64 0,.int .u64 0,.int .u64 0,.string ⟨#[]⟩,.int .i64 0]):=by and_intros<;>kernel_rfl
@[go_sem] theorem T.placesA_43:bM prog 43=some ([(0,1),(1,1),(2,1),(3,1),(4,1)],[.int .i64 0,.int .i64 0,.int .i64 0,.slice none 0 0,.slice none 0 0])/\bM prog 469=some ([(0,1),(1,1),(2,1),(3,1),(4,1),(5,1),(6,1),(7,1),(8,1),(9,1),(10,1),(11,1)],[.int .i64 0,.int .i64 0,.int .i64 0,.int .i64 0,.int .i64 0,.int .i64 0,.int .i64 0,.int .i64 0,.int .i64 0,.int .i64 0,.int .i64 0,.int .i64 0])/\bM prog 472=some ([(0,1),(1,1),(2,1),(3,1),(4,1),(5,1),(6,1),(7,1),(8,1),(9,1),(10,1),(11,1),(12,1),(13,1),(14,1),(15,1),(16,1),(17,1),(18,1),(19,1),(20,1),(21,1),(22,1),(23,1),(24,1)],[.int .i64 0,.int .i64 0,.int .i64 0,.int .i64 0,.int .i64 0,.int .i64 0,.int .i64 0,.int .i64 0,.int .i64 0,.int .i64 0,.int .i64 0,.int .i64 0,.int .i64 0,.int .i64 0,.int .i64 0,.int .i64 0,.int .i64 0,.int .i64 0,.int .i64 0,.int .i64 0,.int .i64 0,.int .i64 0,.int .i64 0,.int .i64 0,.int .i64 0])/\bM prog 474=some ([(0,1),(1,1),(2,1),(3,1),(4,1),(5,1),(6,1),(7,1),(8,1),(9,1),(10,1),(11,1),(12,1),(13,1),(14,1),(15,1),(16,1),(17,1),(18,1),(19,1),(20,1),(21,1),(22,1),(23,1)],[.int .u64 0,.int .u64 0,.int .u64 0,.int .u64 0,.int .u64 0,.int .u64 0,.int .u64 0,.int .u64 0,.int .u64 0,.int .u64 0,.int .u64 0,.int .u64 0,.int .u64 0,.int .u64 0,.int .u64 0,.int .u64 0,.int .u64 0,.int .u64 0,.int .u64 0,.int .u64 0,.int .u64 0,.int .u64 0,.int .u64 0,.int .u64 0])/\bM prog 483=some ([(0,1),(1,1),(2,1),(3,1),(4,1),(5,1),(6,1),(7,1),(8,1),(9,1),(10,1),(11,1),(12,1),(13,1),(14,1),(15,1),(16,1),(17,1),(18,1),(19,1)],[.int .u64 0,.int .u64 0,.int .u64 0,.int .u64 0,.int .u64 0,.int .u64 0,.int .u64 0,.int .u64 0,.int .u64 0,.int .u64 0,.int .u64 0,.int .u64 0,.int .u64 0,.int .u64 0,.int .u64 0,.int .u64 0,.int .u64 0,.int .u64 0,.int .u64 0,.int .u64 0])/\bM prog 501=some ([(0,1),(1,1),(2,1),(3,1),(4,1),(5,1),(6,1),(7,1),(8,1),(9,1),(10,1),(11,1),(12,1),(13,1),(14,1),(15,1),(16,1),(17,1),(18,1),(19,1),(20,1),(21,1),(22,1),(23,1),(24,1),(25,1),(26,1),(27,1),(28,1),(29,1),(30,1),(31,1)],[.int .u8 0,.int .u8 0,.int .u8 0,.int .u8 0,.int .u8 0,.int .u8 0,.int .u8 0,.int .u8 0,.int .u8 0,.int .u8 0,.int .u8 0,.int .u8 0,.int .u8 0,.int .u8 0,.int .u8 0,.int .u8 0,.int .u8 0,.int .u8 0,.int .u8 0,.int .u8 0,.int .u8 0,.int .u8 0,.int .u8 0,.int .u8 0,.int .u8 0,.int .u8 0,.int .u8 0,.int .u8 0,.int .u8 0,.int .u8 0,.int .u8 0,.int .u8 0])/\bM prog 502=some ([(0,1),(1,1),(2,1),(3,1),(4,1),(5,1),(6,1),(7,1),(8,1),(9,1),(10,1),(11,1),(12,1),(13,1),(14,1),(15,1),(16,1),(17,1),(18,1),(19,1),(20,1),(21,1),(22,1),(23,1),(24,1),(25,1),(26,1),(27,1),(28,1),(29,1),(30,1),(31,1),(32,1),(33,1),(34,1),(35,1),(36,1),(37,1),(38,1),(39,1),(40,1),(41,1),(42,1),(43,1),(44,1),(45,1),(46,1),(47,1),(48,1),(49,1),(50,1),(51,1),(52,1),(53,1),(54,1),(55,1),(56,1),(57,1),(58,1),(59,1),(60,1),(61,1),(62,1),(63,1)],[.int .u8 0,.int .u8 0,.int .u8 0,.int .u8 0,.int .u8 0,.int .u8 0,.int .u8 0,.int .u8 0,.int .u8 0,.int .u8 0,.int .u8 0,.int .u8 0,.int .u8 0,.int .u8 0,.int .u8 0,.int .u8 0,.int .u8 0,.int .u8 0,.int .u8 0,.int .u8 0,.int .u8 0,.int .u8 0,.int .u8 0,.int .u8 0,.int .u8 0,.int .u8 0,.int .u8 0,.int .u8 0,.int .u8 0,.int .u8 0,.int .u8 0,.int .u8 0,.int .u8 0,.int .u8 0,.int .u8 0,.int .u8 0,.int .u8 0,.int .u8 0,.int .u8 0,.int .u8 0,.int .u8 0,.int .u8 0,.int .u8 0,.int .u8 0,.int .u8 0,.int .u8 0,.int .u8 0,.int .u8 0,.int .u8 0,.int .u8 0,.int .u8 0,.int .u8 0,.int .u8 0,.int .u8 0,.int .u8 0,.int .u8 0,.int .u8 0,.int .u8 0,.int .u8 0,.int .u8 0,.int .u8 0,.int .u8 0,.int .u8 0,.int .u8 0])/\bM prog 54=some ([(0,1),(1,1),(2,1)],[.int .i64 0,.int .i64 0,.int .i64 0]):=by and_intros<;>kernel_rfl
@[go_sem] theorem T.placesA_69:bM prog 69=some ([(0,1),(1,1)],[.int .i64 0,.slice none 0 0])/\bM prog 73=some ([(0,1),(1,1),(2,1),(3,1),(4,1)],[.int .i64 0,.int .i64 0,.int .i64 0,.int .i64 0,.slice none 0 0])/\bM prog 76=some ([(0,1),(1,1)],[.int .i64 0,.int .i64 0])/\bM prog 81=some ([(0,1),(1,1),(2,1),(3,1)],[.int .i64 0,.int .i64 0,.int .i64 0,.int .i64 0])/\bM prog 84=some ([(0,1),(1,1),(2,1)],[.int .i64 0,.int .i64 0,.int .i64 0])/\bM prog 87=some ([(0,1),(1,1),(2,1),(3,1),(4,1)],[.int .i64 0,.int .i64 0,.int .i64 0,.bool false,.slice none 0 0])/\bM prog 92=some ([(0,1),(1,1)],[.int .i64 0,.int .i64 0])/\bM prog 94=some ([(0,1),(1,1),(2,2)],[.int .i64 0,.int .i64 0,.int .i64 0,.int .i64 0]):=by and_intros<;>kernel_rfl
@[go_sem] theorem T.ptrT_345:ptrT prog 345=true/\ptrT prog 449=true/\Eu prog 194=some (197,4)/\Eu prog 207=some (48,1)/\Eu prog 22=some (113,5)/\Eu prog 227=some (232,2)/\Eu prog 23=some (165,6)/\Eu prog 24=some (168,6):=by and_intros<;>kernel_rfl
@[go_sem] theorem T.slA_25:Eu prog 25=some (171,6)/\Eu prog 26=some (174,6)/\Eu prog 29=some (73,5)/\Eu prog 30=some (81,4)/\Eu prog 31=some (125,6)/\Eu prog 32=some (159,7)/\Eu prog 33=some (94,4)/\Eu prog 34=some (100,8):=by and_intros<;>kernel_rfl
@[go_sem] theorem T.slA_35:Eu prog 35=some (161,2)/\Eu prog 36=some (84,3)/\Eu prog 369=some (92,2)/\Eu prog 376=some (171,6)/\Eu prog 39=some (54,3)/\Eu prog 40=some (3,1)/\Eu prog 41=some (9,1)/\Eu prog 425=some (5,1):=by and_intros<;>kernel_rfl
@[go_sem] theorem T.slA_47:Eu prog 47=some (43,5)/\Eu prog 64=some (69,2)/\Eu prog 71=some (157,2)/\DX prog 194=some (197,4,32,[.int .i64 0,.int .i64 0,.int .i64 0,.int .i64 0])/\DX prog 207=some (48,1,8,[.int .i64 0])/\DX prog 22=some (113,5,56,[.int .i64 0,.int .i64 0,.int .i64 0,.int .i64 0,.slice none 0 0])/\DX prog 227=some (232,2,16,[.nilFunc,.nilFunc])/\DX prog 23=some (165,6,48,[.int .i64 0,.int .i64 0,.int .i64 0,.bool false,.int .i64 0,.int .i64 0]):=by and_intros<;>kernel_rfl
@[go_sem] theorem T.slB_24:DX prog 24=some (168,6,56,[.int .i64 0,.string ⟨#[]⟩,.int .i64 0,.int .i64 0,.int .i64 0,.int .i64 0])/\DX prog 25=some (171,6,48,[.int .i64 0,.int .i64 0,.int .i64 0,.bool false,.int .i64 0,.int .i64 0])/\DX prog 26=some (174,6,48,[.int .i64 0,.int .i64 0,.int .i64 0,.int .i64 0,.int .i64 0,.int .i64 0])/\DX prog 29=some (73,5,56,[.int .i64 0,.int .i64 0,.int .i64 0,.int .i64 0,.slice none 0 0])/\DX prog 30=some (81,4,32,[.int .i64 0,.int .i64 0,.int .i64 0,.int .i64 0])/\DX prog 31=some (125,6,48,[.int .i64 0,.int .i64 0,.int .i64 0,.int .i64 0,.int .i64 0,.int .i64 0])/\DX prog 32=some (159,7,56,[.int .i64 0,.int .i64 0,.int .i64 0,.int .i64 0,.int .i64 0,.int .i64 0,.int .i64 0])/\DX prog 33=some (94,4,32,[.int .i64 0,.int .i64 0,.int .i64 0,.int .i64 0]):=by and_intros<;>kernel_rfl
@[go_sem] theorem T.slB_34:DX prog 34=some (100,8,96,[.int .i64 0,.int .i64 0,.int .i64 0,.int .i64 0,.int .i64 0,.int .i64 0,.slice none 0 0,.slice none 0 0])/\DX prog 35=some (161,2,16,[.int .i64 0,.int .i64 0])/\DX prog 36=some (84,3,24,[.int .i64 0,.int .i64 0,.int .i64 0])/\DX prog 369=some (92,2,16,[.int .i64 0,.int .i64 0])/\DX prog 39=some (54,3,24,[.int .i64 0,.int .i64 0,.int .i64 0])/\DX prog 40=some (3,1,8,[.int .i64 0])/\DX prog 41=some (9,1,16,[.string ⟨#[]⟩])/\DX prog 425=some (5,1,1,[.int .u8 0]):=by and_intros<;>kernel_rfl
@[go_sem] theorem T.slB_47:DX prog 47=some (43,5,72,[.int .i64 0,.int .i64 0,.int .i64 0,.slice none 0 0,.slice none 0 0])/\DX prog 64=some (69,2,32,[.int .i64 0,.slice none 0 0])/\DX prog 71=some (157,2,16,[.int .i64 0,.int .i64 0])/\DX prog 85=some (202,5,40,[.int .i64 0,.int .i64 0,.int .i64 0,.int .i64 0,.int .i64 0])/\qY prog 222=false/\qY prog 259=false/\qY prog 261=false/\qY prog 3=false:=by and_intros<;>kernel_rfl
@[go_sem] theorem T.strT_354:qY prog 354=false/\qY prog 425=false/\qY prog 449=false/\qY prog 494=false/\qY prog 5=false/\qY prog 9=true/\iM prog 100=some (true,8)/\iM prog 111=some (true,2):=by and_intros<;>kernel_rfl
@[go_sem] theorem T.tyA_113:iM prog 113=some (true,5)/\iM prog 125=some (true,6)/\iM prog 143=some (false,1)/\iM prog 145=some (true,5)/\iM prog 148=some (false,1)/\iM prog 157=some (true,2)/\iM prog 159=some (true,7)/\iM prog 161=some (true,2):=by and_intros<;>kernel_rfl
@[go_sem] theorem T.tyA_165:iM prog 165=some (true,6)/\iM prog 168=some (true,6)/\iM prog 171=some (true,6)/\iM prog 174=some (true,6)/\iM prog 184=some (false,1)/\iM prog 185=some (false,1)/\iM prog 194=some (false,1)/\iM prog 197=some (true,4):=by and_intros<;>kernel_rfl
@[go_sem] theorem T.tyA_22:iM prog 22=some (false,1)/\iM prog 229=some (false,1)/\iM prog 23=some (false,1)/\iM prog 232=some (true,2)/\iM prog 24=some (false,1)/\iM prog 241=some (false,1)/\iM prog 25=some (false,1)/\iM prog 26=some (false,1):=by and_intros<;>kernel_rfl
@[go_sem] theorem T.tyA_261:iM prog 261=some (false,1)/\iM prog 28=some (true,6)/\iM prog 29=some (false,1)/\iM prog 291=some (false,1)/\iM prog 3=some (false,1)/\iM prog 30=some (false,1)/\iM prog 31=some (false,1)/\iM prog 32=some (false,1):=by and_intros<;>kernel_rfl
@[go_sem] theorem T.tyA_33:iM prog 33=some (false,1)/\iM prog 34=some (false,1)/\iM prog 35=some (false,1)/\iM prog 354=some (false,1)/\iM prog 36=some (false,1)/\iM prog 369=some (false,1)/\iM prog 38=some (true,16)/\iM prog 39=some (false,1):=by and_intros<;>kernel_rfl
@[go_sem] theorem T.tyA_4:iM prog 4=some (false,1)/\iM prog 40=some (false,1)/\iM prog 404=some (true,2)/\iM prog 41=some (false,1)/\iM prog 421=some (true,25)/\iM prog 425=some (false,1)/\iM prog 43=some (true,5)/\iM prog 449=some (false,1):=by and_intros<;>kernel_rfl
@[go_sem] theorem T.tyA_469:iM prog 469=some (true,12)/\iM prog 472=some (true,25)/\iM prog 474=some (true,24)/\iM prog 48=some (false,1)/\iM prog 483=some (true,20)/\iM prog 5=some (false,1)/\iM prog 501=some (true,32)/\iM prog 502=some (true,64):=by and_intros<;>kernel_rfl
@[go_sem] theorem T.tyA_54:iM prog 54=some (true,3)/\iM prog 67=some (false,1)/\iM prog 69=some (true,2)/\iM prog 71=some (false,1)/\iM prog 73=some (true,5)/\iM prog 76=some (true,2)/\iM prog 81=some (true,4)/\iM prog 84=some (true,3):=by and_intros<;>kernel_rfl
@[go_sem] theorem T.tyA_85:iM prog 85=some (false,1)/\iM prog 87=some (true,5)/\iM prog 9=some (false,1)/\iM prog 92=some (true,2)/\iM prog 94=some (true,4)/\dN prog 100=some [.int .i64 0,.int .i64 0,.int .i64 0,.int .i64 0,.int .i64 0,.int .i64 0,.slice none 0 0,.slice none 0 0]/\dN prog 111=some [.int .i64 0,.int .i64 0]/\dN prog 113=some [.int .i64 0,.int .i64 0,.int .i64 0,.int .i64 0,.slice none 0 0]:=by and_intros<;>kernel_rfl
@[go_sem] theorem T.zeroA_125:dN prog 125=some [.int .i64 0,.int .i64 0,.int .i64 0,.int .i64 0,.int .i64 0,.int .i64 0]/\dN prog 145=some [.int .i64 0,.int .i64 0,.bool false,.int .i64 0,.nilFunc]/\dN prog 157=some [.int .i64 0,.int .i64 0]/\dN prog 159=some [.int .i64 0,.int .i64 0,.int .i64 0,.int .i64 0,.int .i64 0,.int .i64 0,.int .i64 0]/\dN prog 161=some [.int .i64 0,.int .i64 0]/\dN prog 165=some [.int .i64 0,.int .i64 0,.int .i64 0,.bool false,.int .i64 0,.int .i64 0]/\dN prog 168=some [.int .i64 0,.string ⟨#[]⟩,.int .i64 0,.int .i64 0,.int .i64 0,.int .i64 0]/\dN prog 171=some [.int .i64 0,.int .i64 0,.int .i64 0,.bool false,.int .i64 0,.int .i64 0]:=by and_intros<;>kernel_rfl
@[go_sem] theorem T.zeroA_174:dN prog 174=some [.int .i64 0,.int .i64 0,.int .i64 0,.int .i64 0,.int .i64 0,.int .i64 0]/\dN prog 184=some [.nilFunc]/\dN prog 194=some [.slice none 0 0]/\dN prog 197=some [.int .i64 0,.int .i64 0,.int .i64 0,.int .i64 0]/\dN prog 23=some [.slice none 0 0]/\dN prog 232=some [.nilFunc,.nilFunc]/\dN prog 28=some [.slice none 0 0,.slice none 0 0,.slice none 0 0,.int .i64 0,.slice none 0 0,.slice none 0 0]/\dN prog 291=some [.nilFunc]:=by and_intros<;>kernel_rfl
@[go_sem] theorem T.zeroA_3:dN prog 3=some [.int .i64 0]/\dN prog 354=some [.int .u64 0]/\dN prog 369=some [.slice none 0 0]/\dN prog 38=some [.slice none 0 0,.slice none 0 0,.slice none 0 0,.int .i64 0,.slice none 0 0,.slice none 0 0,.slice none 0 0,.slice none 0 0,.slice none 0 0,.slice none 0 0,.int .i64 0,.slice none 0 0,.slice none 0 0,.slice none 0 0,.slice none 0 0,.int .i64 0]/\dN prog 40=some [.slice none 0 0]/\dN prog 404=some [.int .i64 0,.nilFunc]/\dN prog 421=some [.int .u64 0,.int .u64 0,.int .u64 0,.int .u64 0,.int .u64 0,.int .u64 0,.int .u64 0,.int .u64 0,.int .u64 0,.int .u64 0,.int .u64 0,.int .u64 0,.int .u64 0,.int .u64 0,.int .u64 0,.int .u64 0,.int .u64 0,.int .u64 0,.int .u64 0,.int .u64 0,.int .u64 0,.int .u64 0,.int .u64 0,.int .u64 0,.int .u64 0]/\dN prog 43=some [.int .i64 0,.int .i64 0,.int .i64 0,.slice none 0 0,.slice none 0 0]:=by and_intros<;>kernel_rfl
@[go_sem] theorem T.zeroA_451:dN prog 451=some [.pointer none,.slice none 0 0]/\dN prog 469=some [.int .i64 0,.int .i64 0,.int .i64 0,.int .i64 0,.int .i64 0,.int .i64 0,.int .i64 0,.int .i64 0,.int .i64 0,.int .i64 0,.int .i64 0,.int .i64 0]/\dN prog 472=some [.int .i64 0,.int .i64 0,.int .i64 0,.int .i64 0,.int .i64 0,.int .i64 0,.int .i64 0,.int .i64 0,.int .i64 0,.int .i64 0,.int .i64 0,.int .i64 0,.int .i64 0,.int .i64 0,.int .i64 0,.int .i64 0,.int .i64 0,.int .i64 0,.int .i64 0,.int .i64 0,.int .i64 0,.int .i64 0,.int .i64 0,.int .i64 0,.int .i64 0]/\dN prog 474=some [.int .u64 0,.int .u64 0,.int .u64 0,.int .u64 0,.int .u64 0,.int .u64 0,.int .u64 0,.int .u64 0,.int .u64 0,.int .u64 0,.int .u64 0,.int .u64 0,.int .u64 0,.int .u64 0,.int .u64 0,.int .u64 0,.int .u64 0,.int .u64 0,.int .u64 0,.int .u64 0,.int .u64 0,.int .u64 0,.int .u64 0,.int .u64 0]/\dN prog 48=some [.int .i64 0]/\dN prog 492=some [.int .u64 0,.int .u64 0,.int .u64 0,.int .u64 0,.int .u64 0]/\dN prog 54=some [.int .i64 0,.int .i64 0,.int .i64 0]/\dN prog 67=some [.map none]:=by and_intros<;>kernel_rfl
@[go_sem] theorem T.zeroA_69:dN prog 69=some [.int .i64 0,.slice none 0 0]/\dN prog 73=some [.int .i64 0,.int .i64 0,.int .i64 0,.int .i64 0,.slice none 0 0]/\dN prog 76=some [.int .i64 0,.int .i64 0]/\dN prog 81=some [.int .i64 0,.int .i64 0,.int .i64 0,.int .i64 0]/\dN prog 84=some [.int .i64 0,.int .i64 0,.int .i64 0]/\dN prog 87=some [.int .i64 0,.int .i64 0,.int .i64 0,.bool false,.slice none 0 0]/\dN prog 92=some [.int .i64 0,.int .i64 0]/\dN prog 94=some [.int .i64 0,.int .i64 0,.int .i64 0,.int .i64 0]:=by and_intros<;>kernel_rfl
theorem T.en94:dX prog 94=true:=by kernel_rfl
theorem T.en123:dX prog 123=true:=by kernel_rfl
theorem T.en228:dX prog 228=true:=by kernel_rfl
theorem T.en229:dX prog 229=true:=by kernel_rfl
theorem T.en339:dX prog 339=true:=by kernel_rfl
theorem T.en340:dX prog 340=true:=by kernel_rfl
theorem T.en341:dX prog 341=true:=by kernel_rfl
theorem T.en351:dX prog 351=true:=by kernel_rfl
theorem T.mixed:prog.follows .mixedOrders=true:=by kernel_rfl
attribute [go_sem] ntmps3 ntmps4 ntmps5 ntmps6 ntmps7 ntmps8 ntmps9 ntmps10 ntmps11 ntmps12 ntmps13 ntmps14 ntmps15 ntmps16 ntmps17 ntmps18 ntmps19 ntmps20 ntmps21 ntmps22 ntmps23 ntmps24 ntmps25 ntmps26 ntmps27 ntmps28 ntmps29 ntmps30 ntmps31 ntmps32 ntmps33 ntmps34 ntmps35 ntmps36 ntmps37 ntmps38 ntmps39 ntmps40 ntmps41 ntmps42 ntmps43 ntmps44 ntmps45 ntmps46 ntmps47 ntmps48 ntmps49 ntmps50 ntmps51 ntmps52 ntmps53 ntmps54 ntmps55 ntmps56 ntmps57 ntmps58 ntmps59 ntmps60 ntmps61 ntmps62 ntmps63 ntmps64 ntmps65 ntmps66 ntmps67 ntmps68 ntmps69 ntmps70 ntmps71 ntmps72 ntmps73 ntmps74 ntmps75 ntmps76 ntmps77 ntmps78 ntmps79 ntmps80 ntmps81 ntmps82 ntmps83 ntmps84 ntmps85 ntmps86 ntmps87 ntmps88 ntmps89 ntmps90 ntmps91 ntmps92 ntmps93 ntmps94 ntmps95 ntmps96 ntmps97 ntmps98 ntmps99 ntmps100 ntmps101 ntmps102 ntmps103 ntmps104 ntmps105 ntmps106 ntmps107 ntmps108 ntmps109 ntmps110 ntmps111 ntmps112 ntmps113 ntmps114 ntmps115 ntmps116 ntmps117 ntmps118 ntmps119 ntmps120 ntmps121 ntmps122 ntmps124 ntmps125 ntmps126 ntmps127 ntmps128 ntmps129 ntmps130 ntmps131 ntmps132 ntmps133 ntmps134 ntmps135 ntmps136 ntmps137 ntmps138 ntmps139 ntmps140 ntmps141 ntmps142 ntmps143 ntmps144 ntmps145 ntmps146 ntmps147 ntmps148 ntmps149 ntmps150 ntmps151 ntmps152 ntmps153 ntmps154 ntmps155 ntmps156 ntmps157 ntmps158 ntmps159 ntmps160 ntmps161 ntmps162 ntmps163 ntmps164 ntmps165 ntmps166 ntmps167 ntmps168 ntmps169 ntmps170 ntmps171 ntmps172 ntmps173 ntmps184 ntmps185 ntmps186 ntmps187 ntmps188 ntmps189 ntmps190 ntmps191 ntmps192 ntmps193 ntmps194 ntmps195 ntmps196 ntmps197 ntmps198 ntmps199 ntmps200 ntmps201 ntmps202 ntmps203 ntmps204 ntmps205 ntmps206 ntmps207 ntmps208 ntmps209 ntmps210 ntmps211 ntmps212 ntmps213 ntmps214 ntmps215 ntmps216 ntmps217 ntmps218 ntmps219 ntmps220 ntmps221 ntmps222 ntmps223 ntmps224 ntmps225 ntmps226 ntmps227 ntmps230 ntmps231 ntmps232 ntmps233 ntmps234 ntmps235 ntmps236 ntmps237 ntmps238 ntmps239 ntmps240 ntmps241 ntmps242 ntmps243 ntmps244 ntmps245 ntmps246 ntmps247 ntmps248 ntmps249 ntmps250 ntmps251 ntmps252 ntmps253 ntmps254 ntmps255 ntmps256 ntmps257 ntmps258 ntmps259 ntmps260 ntmps261 ntmps262 ntmps263 ntmps264 ntmps265 ntmps266 ntmps267 ntmps268 ntmps269 ntmps270 ntmps271 ntmps272 ntmps273 ntmps274 ntmps280 ntmps281 ntmps282 ntmps283 ntmps284 ntmps285 ntmps286 ntmps287 ntmps288 ntmps289 ntmps290 ntmps291 ntmps292 ntmps293 ntmps294 ntmps295 ntmps296 ntmps297 ntmps298 ntmps299 ntmps300 ntmps301 ntmps302 ntmps303 ntmps304 ntmps305 ntmps306 ntmps307 ntmps308 ntmps311 ntmps312 ntmps313 ntmps314 ntmps315 ntmps318 ntmps319 ntmps320 ntmps321 ntmps322 ntmps323 ntmps324 ntmps325 ntmps326 ntmps327 ntmps328 ntmps329 ntmps330 ntmps331 ntmps332 ntmps333 ntmps334 ntmps335 ntmps336 ntmps337 ntmps342 ntmps343 ntmps344 ntmps345 ntmps346 ntmps347 ntmps348 ntmps349 ntmps350 ntmps361 ntmps363 ntmps364 ntmps365 ntmps366 ntmps367 ntmps368 ntmps369 ntmps372 ntmps373 ntmps374 ntmps375 ntmps376 ntmps377 ntmps378 ntmps380 ntmps381 ntmps395 ntmps399 ntmps402 ntmps403 ntmps404 ntmps405 ntmps406 ntmps407 ntmps408 ntmps424 ntmps432 results3 results4 results5 results6 results7 results8 results9 results10 results11 results12 results13 results14 results15 results16 results17 results18 results19 results20 results21 results22 results23 results24 results25 results26 results27 results28 results29 results30 results31 results32 results33 results34 results35 results36 results37 results38 results39 results40 results41 results42 results43 results44 results45 results46 results47 results48 results49 results50 results51 results52 results53 results54 results55 results56 results57 results58 results59 results60 results61 results62 results63 results64 results65 results66 results67 results68 results69 results70 results71 results72 results73 results74 results75 results76 results77 results78 results79 results80 results81 results82 results83 results84 results85 results86 results87 results88 results89 results90 results91 results92 results93 results95 results96 results97 results98 results99 results100 results101 results102 results103 results104 results105 results106 results107 results108 results109 results110 results111 results112 results113 results114 results115 results116 results117 results118 results119 results120 results121 results122 results124 results125 results126 results127 results128 results129 results130 results131 results132 results133 results134 results135 results136 results137 results138 results139 results140 results141 results142 results143 results144 results145 results146 results147 results148 results149 results150 results151 results152 results153 results154 results155 results156 results157 results158 results159 results160 results161 results162 results163 results164 results165 results166 results167 results168 results169 results170 results171 results172 results184 results185 results186 results187 results188 results189 results190 results191 results192 results193 results194 results195 results196 results197 results198 results199 results200 results201 results202 results203 results204 results205 results206 results207 results208 results209 results210 results211 results212 results213 results214 results215 results216 results217 results218 results219 results220 results221 results222 results223 results224 results225 results226 results227 results230 results231 results232 results233 results234 results235 results236 results237 results238 results239 results240 results241 results242 results243 results244 results245 results246 results247 results248 results249 results250 results251 results252 results253 results254 results255 results256 results257 results258 results259 results260 results261 results262 results263 results264 results265 results266 results267 results268 results269 results270 results271 results272 results273 results274 results280 results281 results282 results283 results284 results285 results286 results287 results288 results289 results290 results291 results292 results293 results294 results295 results296 results297 results298 results299 results300 results301 results302 results303 results304 results305 results306 results307 results308 results311 results312 results313 results314 results315 results318 results319 results320 results321 results322 results323 results324 results325 results326 results327 results328 results329 results330 results331 results332 results333 results334 results335 results336 results337 results342 results343 results344 results345 results346 results347 results348 results349 results350 results361 results363 results364 results365 results366 results367 results368 results369 results372 results373 results374 results375 results376 results377 results380 results381 results395 results399 results402 results403 results404 results405 results406 results407 results408 results432
theorem T.dr{Q:Exit->St->Prop}{s:St}{id:Nat}{ops:List Oper}(m:Nat)(h: ∀K:St->Prop,(∀s',Q .normal s'->K s')->bH prog true ops (ops.take m) s (Go.aU.Rest prog false ops (ops.drop m) K))(hok:(dY ops m&&Nat.ble m ops.length)=true:=by kernel_rfl):fA prog (.region id ops.toArray true) Q s:=X9 m T.mixed hok h
variable (σ : List aG)
structure Span where
 From:Int
 Until:Int
structure Rule where
 ID:Int
 Class:Int
 jI:Int
 PW:Bool
 In:Span
instance:Inhabited Rule:=⟨⟨0,0,0,false,⟨0,0⟩⟩⟩
def Span.enc(s:Span):List D:=[I s.From,I s.Until]
def Rule.enc(r:Rule):List D:=[I r.ID,I r.Class,I r.jI,B r.PW,I r.In.From,I r.In.Until]
attribute [go_sem] Span.enc Rule.enc
def yM(s:Span):Bool:=decide (0<=s.From)&&decide (s.From<s.Until)&&decide (s.Until<=1048576)
theorem O9(s:Span):aA prog 281 [.agg (s.enc.map .d)] σ (.d (B (yM s))):=by
 refine aA.bs true func281 fun hwf=> ?_;refine aj ?_;simp[go_sem,yM]<;>omega
def formed(r:Rule):Bool:=decide (1<=r.ID)&&decide (r.ID<=1073741824)&&decide (1<=r.Class)&&decide (r.Class<=999)&&decide (0<=r.jI)&&decide (r.jI<=200)&&yM r.In
theorem Jz(r:Rule):aA prog 184 [.agg (r.enc.map .d)] σ (.d (B (formed r))):=by
 refine aA.bs true func184 fun hwf=> ?_;refine fM.mk (O9 _ r.In) (sm ?_);refine aj ?_;simp[go_sem,formed]<;>omega
theorem zi(c:Option Nat)(n:Nat)(g:Nat->Rule)(f:FuncId)(cap:List AV)(p:Rule->Bool)(hn:n<1000000000)(hf: ∀i,i<n->aA prog f (.agg ((g i).enc.map .d)::cap) σ (.d (B (p (g i))))):aA prog 282 [.d (SL c 6 Rule.enc n g),.clo (.func f) [] cap] σ (.d (I (idxFrom p (lst n g) 0))):=by
 refine aA.bs true func282 fun hwf=> ?_;refine kQ (α:=Nat) true [0,1,7,8] (fun i=>[(8,.d (I i))]) (fun i=>_) (fun i=>i<=n/\idxFrom p (lst n g) 0=idxFrom p ((lst n g).drop i) i) (fun i=>n-i) 0 ?_;rintro i ⟨hi,hx⟩;simp[go_sem];refine aJ [0,1,7,8] ?_ ?_<;>intro c0 d0
 ·rw[gX d0,idxFrom] at hx;simp[go_sem];repeat refine⟨by omega,?_⟩
  refine aO.mk (hf i d0) (sm ?_);refine aJ [0,1,5,7,8] ?_ ?_<;>intro c1 d1
  ·simp[go_sem];refine aj ?_;simp[go_sem,hx,c1]<;>omega
  ·simp(disch:=first|omega|simp) [go_sem,aH];refine gB (i+1) ⟨by omega,by rw[hx,c1];simp⟩ (h:=by simp[go_sem]<;>omega)
 ·rw[gY d0,idxFrom] at hx;simp[go_sem];refine go true (sm ?_);refine aj ?_;simp[go_sem,hx]<;>omega
theorem O8(c:Option Nat)(n:Nat)(g:Nat->Rule)(f:FuncId)(cap:List AV)(p:Rule->Bool)(hn:n<1000000000)(hf: ∀i,i<n->aA prog f (.agg ((g i).enc.map .d)::cap) σ (.d (B (p (g i))))):aA prog 185 [.d (SL c 6 Rule.enc n g),.clo (.func f) [] cap] σ (.d (B ((lst n g).any p))):=by
 refine aA.bs true func185 fun hwf=> ?_;refine aO.mk (zi _ c n g f cap p hn hf) (sm ?_);refine aj ?_;simp[go_sem,mY]<;>omega
def clash(r o:Rule):Bool:=(o.Class==r.Class)&&decide (o.In.From<r.In.Until)&&decide (r.In.From<o.In.Until)
theorem Gv(τ:List aG)(r o:Rule):aA prog 186 [.agg (o.enc.map .d),.ptr τ.length 0] (τ++ .var (r.enc.map .d)::σ) (.d (B (clash r o))):=by
 refine aA.bs true func186 fun hwf=> ?_;refine aj ?_;simp[go_sem,clash]<;>omega
def XV(g:Nat->Rule)(i:Nat):Nat->Int
 |0=>0
 |k+1=>if formed (g i)=false then 2 else if(decide (0<i)&&decide ((g i).ID<=(g (i-1)).ID))=true then 5 else if(lst i g).any (clash (g i))=true then 6 else XV g (i+1) k
def check(n:Nat)(g:Nat->Rule):Int:=if 64<n then 8 else XV g 0 n
theorem lJ(c:Option Nat)(n:Nat)(g:Nat->Rule)(hn:n<1000000000):aA prog 124 [.d (SL c 6 Rule.enc n g)] σ (.d (I (check n g))):=by
 refine aA.bs true func124 fun hwf=> ?_;refine aJ [0] ?_ ?_<;>intro c0 d0
 ·simp[go_sem];refine aj ?_;simp[go_sem,check]<;>omega
 ·simp[go_sem];refine kQ (α:=Nat) true [0,8,9,10] (fun i=>[(10,.d (I i))]) (fun i=>_) (fun i=>i<=n/\XV g 0 n=XV g i (n-i)) (fun i=>n-i) 0 ?_;rintro i ⟨hi,hx⟩;simp[go_sem];refine aJ [0,8,9,10] ?_ ?_<;>intro c1 d1
  ·obtain⟨k,hk⟩: ∃k,n-i=k+1:=⟨n-i-1,by omega⟩;have hk':n-(i+1)=k:=by omega
   rw[hk,XV] at hx;simp[go_sem];repeat refine⟨by omega,?_⟩
   refine aO.mk (Jz _ _) ?_;simp[go_sem];refine aJ [0,3,4,8,9,10] ?_ ?_<;>intro c2 d2
   ·simp[go_sem];refine aj ?_;simp[go_sem,check,hx,d2]<;>omega
   ·simp[go_sem];refine T.dr 14 fun K hK=> ?_;simp[go_sem,dn (i:=i) (by omega)];repeat refine⟨by omega,?_⟩
    refine hK _ ?_;refine go true ?_;simp[go_sem];refine aJ [0,3,4,8,9,10] ?_ ?_<;>intro c3 d3
    ·simp[go_sem];refine aj ?_;simp[go_sem,check,hx,d2,d3]<;>omega
    ·simp[go_sem,hi];refine aO.mk (O8 _ _ i g _ _ (clash (g i)) (by omega) (fun q hq=>Gv [] σ (g i) (g q))) ?_;simp[go_sem];refine aJ [0,8,9,10] ?_ ?_<;>intro c4 d4
     ·simp[go_sem];refine aj ?_;simp[go_sem,check,hx,d2,c3,c4]<;>omega
     ·simp(disch:=first|omega|simp) [go_sem,aH];refine gB (i+1) ⟨by omega,by rw[hx,hk'];simp[d2,c3,c4]⟩ (h:=by simp[go_sem]<;>omega)
  ·obtain rfl:i=n:=by omega
   rw[Nat.sub_self,XV] at hx;simp[go_sem];refine go true ?_;simp[go_sem];refine aj ?_;simp[go_sem,check,hx]<;>omega
end Go.Proofs.YtmahphgjkpgidaaGreatDoor
