/- Lemmas, no conditions. -/
import Derived.Test.YthpplckmbbachaaGreatDoorKB5
set_option linter.unusedVariables false
set_option linter.unusedSimpArgs false
namespace Go.aI
section
variable {P : Program} {c : Code} {Q : Exit -> St -> Prop} {N : Nat} {t t' : List (Nat × AV)} {σ σ' : List aZ} {mv : List Nat}
theorem YZ(k){b sz lo n}(hk:get t k=some (.ms b sz lo n))(h: ∀q,n<=q->cV P c Q ⟨N,put t k (.mc b sz lo n q),σ,mv⟩):cV P c Q ⟨N,t,σ,mv⟩:=by
 intro j0 j a w hr;obtain⟨hkN,hv⟩:=hr.tmp k _ hk;have key: ∃(p:Option Addr) (q:Nat),a.tmps.getD k Go.undef= .slice p n q/\n<=q:=by
  revert hv
  generalize a.tmps.getD k Go.undef=v
  intro hv;cases hv<;>grind
 obtain⟨p,q,hq,hn⟩:=key;refine h q hn j0 j a w ⟨hr.defers,hr.fC,hr.size,fun k' av hk'=> ?_,hr.cm,hr.len0,hr.ag⟩;simp only at hk';rw[get_put] at hk';split at hk'
 ·rename_i e;subst e;simp only[Option.some.injEq] at hk';subst hk';exact⟨hkN,.mc hv p hq⟩
 ·exact hr.tmp k' av hk'
theorem OY(k){b sz lo n q n' row}(hk:get t k=some (.mc b sz lo n q))(hb:σ[b]? =some (.arr sz n' row))(hn:n'<=lo+q)(h: ∀row',(∀i,i<n'->row' i=row i)->cV P c Q ⟨N,t,σ.set b (.arr sz (lo+q) row'),mv⟩):cV P c Q ⟨N,t,σ,mv⟩:=by
 intro j0 j a w hr;obtain⟨hkN,hv⟩:=hr.tmp k _ hk;obtain⟨o,ho,hB⟩:=hr.cm.blk b _ hb;have key: ∃row',(∀i,i<n'->row' i=row i)/\RB w j (.arr sz (lo+q) row') o:=by
  revert hv
  generalize a.tmps.getD k Go.undef=v
  intro hv;cases hv with|mc hv p hp=>
  have fin: ∀cb e m,j[b]? =some (some cb)->w.shape? cb=some (e,m)->(lo+q)*sz=m->∃row',(∀i,i<n'->row' i=row i)/\RB w j (.arr sz (lo+q) row') o:=by
   intro cb e m hj hs hm;rw[hj] at ho;cases ho
   obtain⟨C,e',⟨f,hC,tX⟩,hCs,CY⟩:=hB;have hfz:=Or.imp_left And.left tX;have hm':C.size=m:=by rw[jE hC] at hs;grind
   refine⟨fun i=>if i<n' then row i else(List.range sz).map fun r=> .v (C.getD (i*sz+r) Go.undef),fun i hi=>ai,C,e',⟨f,hC,tX⟩,aa,fun i hi=> ?_⟩;by_cases hin:i<n'
   ·grind
   ·simp only[hin,if_false];refine⟨an,fun r hr=> ?_⟩;have e1:((List.range sz).map fun r=>D.v (C.getD (i*sz+r) Go.undef)).getD r default= .v (C.getD (i*sz+r) Go.undef):=by
     simp_all
    rw[e1];exact .v _
  cases hv with
  | @ms _ _ _ _ cb q' e m h1 h2 h3 h4=>grind
  |ms0 p' h1=>
   cases hp
   grind
  | @oY _ _ _ cb p' e m h1 h2 h3 h4=>grind
 obtain⟨row',h1,h2⟩:=key;refine h row' h1 j0 j a w ⟨hr.defers,hr.fC,hr.size,hr.tmp,⟨by simp[hr.cm.len],hr.cm.lt,hr.cm.inj,fun b' x hx=> ?_⟩,hr.len0,hr.ag⟩;rw[List.getElem?_set] at hx;split at hx
 ·grind
 ·exact hr.cm.blk b' x hx
theorem Hz{w j}(hS:aQ w j σ)(b):aQ w (j.set b none) ((σ.map (bP [b])).set b .dead)/\Ev j w (j.set b none) w/\Ag j (j.set b none) [b]:=by
 have he:Ev j w (j.set b none) w:=⟨Nat.le_refl _,fun _ _ _=>rfl,fun c _ hm=>cA hm,fun _ _=>rfl,fun _ _=>rfl,rfl,rfl,rfl,fun _ r h=>⟨r,h⟩⟩;have hag:Ag j (j.set b none) [b]:=fun q hq hn=>by
  grind
 refine⟨⟨by simp[hS.len],fun q cb hq=> ?_,fun q q' cb hq hq'=> ?_,fun q y hy=> ?_⟩,he,hag⟩
 ·rw[List.getElem?_set] at hq;split at hq
  ·all_goals grind
  ·exact hS.lt q cb hq
 ·rw[List.getElem?_set] at hq hq';split at hq
  ·all_goals grind
  ·split at hq'
   ·all_goals grind
   ·exact hS.inj q q' cb hq hq'
 ·rw[List.getElem?_set] at hy;split at hy
  ·rename_i e;subst e;simp only[List.length_map] at hy;split at hy<;>simp at hy;rename_i hlt;subst hy;exact⟨none,by rw[List.getElem?_set];simp[hS.len,hlt],trivial⟩
  ·rename_i e;simp only[List.getElem?_map,Option.map_eq_some_iff] at hy;obtain⟨y',hy',rfl⟩:=hy;obtain⟨o,ho,hB⟩:=hS.blk q y' hy';exact⟨o,ai,hB.ab5 he hS.lt hag fun _ _=>rfl⟩
theorem lY(b)(ht:cq [b] t=t')(hσ:(σ.map (bP [b])).set b .dead=σ')(h:cV P c Q ⟨N,t',σ',mv++[b]⟩):cV P c Q ⟨N,t,σ,mv⟩:=by
 subst ht hσ;refine fg (s':=⟨N,cq [b] t,(σ.map (bP [b])).set b .dead,mv++[b]⟩) ?_ h;intro j0 j a w hr;obtain⟨h1,h2,h3⟩:=Hz hr.cm b;exact⟨_,hr.after h2 h1 an h3,h2⟩
theorem pU(b){sz n' row}(hb:σ[b]? =some (.arr sz n' row))(ht:sJ b sz n' row t=t')(hσ:(σ.map (bP [b])).set b .dead=σ')(h:cV P c Q ⟨N,t',σ',mv++[b]⟩):cV P c Q ⟨N,t,σ,mv⟩:=by
 subst ht hσ;refine fg (s':=⟨N,sJ b sz n' row t,(σ.map (bP [b])).set b .dead,mv++[b]⟩) ?_ h;intro j0 j a w hr;obtain⟨h1,h2,h3⟩:=Hz hr.cm b;refine⟨_,⟨hr.defers.mono h2,hr.fC,hr.size,fun k av hk=> ?_,h1,by simpa using hr.len0,hr.ag.trans hr.len0 h3⟩,h2⟩;obtain⟨x,hx,rfl⟩:=Ff hk;exact⟨(hr.tmp k x hx).1,(hr.tmp k x hx).2.lf hr.cm hb⟩
theorem yA(b){d ks ks' f f'}(hb:σ[b]? =some (.mp d ks f))(hk:ks.Perm ks')(hf: ∀k∈ks,Same (f k) (f' k))(hfree: ∀k,(f' k).free=true)(hσ:σ.set b (.mp d ks' f')=σ')(h:cV P c Q ⟨N,t,σ',mv⟩):cV P c Q ⟨N,t,σ,mv⟩:=by
 subst hσ;refine fg (s':=⟨N,t,σ.set b (.mp d ks' f'),mv⟩) ?_ h;intro j0 j a w hr;obtain⟨o,ho,hB⟩:=hr.cm.blk b _ hb;cases o with
 |none=>exact hB.elim
 |some cb=>
 obtain⟨es,cl,h1,h2⟩:=hB;refine⟨j,⟨hr.defers,hr.fC,hr.size,hr.tmp,⟨by simp[hr.cm.len],hr.cm.lt,hr.cm.inj,fun b' x hx=> ?_⟩,hr.len0,hr.ag⟩,.refl _ _⟩;rw[List.getElem?_set] at hx;split at hx
 ·rename_i e;subst e;split at hx<;>simp at hx;subst hx;refine⟨some cb,ho,es,cl,h1,h2.stamped,h2.keys.trans (hk.map _),fun k hk'=>h2.kind k (hk.mem_iff.2 hk'),hfree,fun e he k hke=> ?_⟩;exact hf k (h2.mem.2 ⟨e,he,hke⟩) w j _ (h2.rel e he k hke)
 ·exact hr.cm.blk b' x hx
end
theorem Same.agg{xs ys}(hl:xs.length=ys.length)(h: ∀k,k<xs.length->Same (xs.getD k .undef) (ys.getD k .undef)):Same (.agg xs) (.agg ys):=fun w j v hr=>by
 cases hr with
 |agg vs hs hv=>exact .agg vs ai fun k hk=>h k aa w j _ (hv k aa)
theorem LP(X x):bP X (bP X x)=bP X x:=by
 cases x with
 |var cs=>
  simp only[bP,List.map_map,aZ.var.injEq];grind [List.map_congr_left]
 |lp L st pd=>
  simp only[bP,aZ.lp.injEq,and_true];rw[yS fun k av h=>(mX h).2]
 |_=>rfl
theorem AJ(X):bP X∘bP X=bP X:=by grind [LP]
theorem gJ.parts{σ τ x}(h:gJ (σ++x::τ))(k):σ.map (bP [(σ++x::τ).length+k])=σ/\τ.map (bP [(σ++x::τ).length+k])=τ:=by
 have:=h.one k;grind [List.append_inj]
end Go.aI
