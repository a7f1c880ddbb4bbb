/- Contracts and lemmas, joined out of smaller texts by a program; no conditions. -/
import Derived.Test.YtmahphgjkpgidaaGreatDoorKB2
set_option linter.unusedVariables false
set_option linter.unusedSimpArgs false
namespace Go.aU
theorem CS.sZ{P:Program}{f:FuncId}{args args':List AV}{σ σ':List aG}{Q:AV->List aG->List Nat->Prop}(b:Nat){sz n:Nat}{row:Nat->List D}(hb:σ[b]? =some (.arr sz n row))(ha:args.map (uU b sz n row)=args')(hσ:aag b sz n row σ=σ')
  (h:CS P f args' σ' Q):CS P f args σ fun r σ1 X=> ∃X0,X=b::X0/\Q r σ1 X0:=by
 subst ha hσ;refine⟨h.1,fun j w vs hS hr=> ?_⟩;have he:Ev j w (j.set b none) w:=⟨Nat.le_refl _,fun _ _ _=>rfl,fun c _ hm=>dL hm,fun _ _=>rfl,fun _ _=>rfl,rfl,rfl,rfl,fun _ r h=>⟨r,h⟩⟩;have hr':Rs w (j.set b none) (args.map (uU b sz n row)) vs:=by
  refine⟨by rw[List.length_map];exact hr.1,fun k hk=> ?_⟩;have hk':k<args.length:=by simpa using hk
  have h1:=(hr.2 k hk').uU hS hb;have e:(args.map (uU b sz n row)).getD k .undef=uU b sz n row (args.getD k .undef):=by
   simp[List.getD_eq_getElem?_getD,hk']
  rw[e];exact h1
 refine(h.2 (j.set b none) w vs (hS.sZ hb) hr').mono ?_;rintro e w' ⟨v,r,σ1,j',X0,he1,h1,h2,h3,h4,h5,h6⟩;refine⟨v,r,σ1,j',b::X0,he1,h1,h2,he.trans h3,by simpa using h4,fun c hc hn=> ?_,X0,rfl,h6⟩;have hcb:c≠b:=fun h=>hn (by simp[h]);have hcx:c∉X0:=fun h=>hn (by simp[h]);rw[h5 c (by simpa using hc) hcx,List.getElem?_set,if_neg (fun h=>hcb h.symm)]
theorem CS.wide{P:Program}{f:FuncId}{args:List AV}{σ:List aG}{Q:AV->List aG->Prop}(Y:List Nat)(h:CS P f args σ fun r σ1 X=>(∀x∈X,x∈Y)/\Q r σ1):CS P f args σ fun r σ1 X=>X=Y/\Q r σ1:=by
 refine⟨h.1,fun j w vs hS hr=>(h.2 j w vs hS hr).mono ?_⟩;rintro e w' ⟨v,r,σ1,j',X,he1,h1,h2,h3,h4,h5,h6,h7⟩;exact⟨v,r,σ1,j',Y,he1,h1,h2,h3,h4,fun c hc hn=>h5 c hc (fun hm=>hn (h6 c hm)),rfl,h7⟩
theorem CS.narrow{P:Program}{f:FuncId}{args:List AV}{σ:List aG}{Q:AV->List aG->Prop}(h:CS P f args σ fun r σ1 X=>(∀x∈X,σ.length<=x)/\Q r σ1):CS P f args σ fun r σ1 X=>X=[]/\Q r σ1:=by
 refine⟨h.1,fun j w vs hS hr=>(h.2 j w vs hS hr).mono ?_⟩;rintro e w' ⟨v,r,σ1,j',X,he1,h1,h2,h3,h4,h5,h6,h7⟩;exact⟨v,r,σ1,j',[],he1,h1,h2,h3,h4,fun c hc _=>h5 c hc (fun hm=>by have:=h6 c hm;rw[←hS.len] at this;omega),rfl,h7⟩
theorem awp_rowsS{P:Program}{c:Code}{Q:Exit->St->Prop}{N:Nat}{t:List (Nat×AV)}{σ σ':List aG}{mv:List Nat}(b:Nat){sz n:Nat}{row:Nat->List D}(row':Nat->List D)(hb:σ[b]? =some (.arr sz n row))(hr: ∀i,i<n->(row' i).length=(row i).length/\∀k,k<sz->∀w j v,RD w j ((row i).getD k default) v->RD w j ((row' i).getD k default) v)(hσ:σ.set b (.arr sz n row')=σ')
  (h:fA P c Q ⟨N,t,σ',mv⟩):fA P c Q ⟨N,t,σ,mv⟩:=by
 refine jS (s':=⟨N,t,σ',mv⟩) ?_ h;intro j0 j a w g;subst hσ;refine⟨j,⟨g.defers,g.jY,g.size,g.tmp,⟨by simp[g.dA.len],g.dA.lt,g.dA.inj,fun c x hx=> ?_⟩,g.len0,g.ag⟩,.refl _ _⟩;simp only at hx;rw[List.getElem?_set] at hx;split at hx
 ·rename_i e;subst e;split at hx
  ·simp only[Option.some.injEq] at hx;subst hx;obtain⟨o,ho,hB⟩:=g.dA.blk b _ hb;refine⟨o,ho,?_⟩;cases o with
   |none=>exact hB
   |some cb=>
    obtain⟨C,e,g1,g2,g3⟩:=hB;exact⟨C,e,g1,g2,fun i hi=>⟨by rw[(hr i hi).1];exact(g3 i hi).1,fun k hk=>(hr i hi).2 k hk _ _ _ ((g3 i hi).2 k hk)⟩⟩
  ·simp at hx
 ·exact g.dA.blk c x hx
theorem RD.nil{w:World}{j:Js}{v:Value}{sz:Nat}{row:Nat->List D}(h:RD w j (.v (.slice none 0 0)) v):RD w j (.sl none sz 0 row) v:=by
 cases h;exact .zero none 0 (.inl rfl) (fun _=>rfl)
end Go.aU
