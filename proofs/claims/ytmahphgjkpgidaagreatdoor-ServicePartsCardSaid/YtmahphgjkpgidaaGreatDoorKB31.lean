/- Contracts and lemmas, joined out of smaller texts by a program; no conditions. -/
import Derived.Test.YtmahphgjkpgidaaGreatDoorKB2
set_option linter.unusedVariables false
set_option linter.unusedSimpArgs false
namespace Go.aU
def fmT(b:Nat)(d:Bool)(ks:List Key)(f:Key->D)(x:AV):AV:=if x.avoids [b] then x else match x with
 | .mp _=> .fm d ks f
 |_=> .undef
def fmM(b:Nat)(d:Bool)(ks:List Key)(f:Key->D):List (Nat×AV)->List (Nat×AV)
 |[]=>[]
 |(k,v)::t=>(k,fmT b d ks f v)::fmM b d ks f t
def fmB(b:Nat)(d:Bool)(ks:List Key)(f:Key->D):aG->aG
 | .var cs=> .var (cs.map (fmT b d ks f))
 | .lp L st pd=> .lp { L with t:=fmM b d ks f L.t } st pd
 |x=>x
def fmS(b:Nat)(d:Bool)(ks:List Key)(f:Key->D)(σ:List aG):List aG:=(σ.map (fmB b d ks f)).set b .dead
section
variable {w : World} {j : Js} {σ : List aG} {b : Nat} {d : Bool} {ks : List Key} {f : Key -> D}
theorem R.fmT(hS:aT w j σ)(hb:σ[b]? =some (.mp d ks fun k=> .d (f k))){x:AV}{v:Value}(h:R w j x v):R w (j.set b none) (fmT b d ks f x) v:=by
 unfold aU.fmT;split
 ·rename_i ha;exact h.unset ha
 ·rename_i ha;split
  ·rename_i b';have e:b'=b:=by simpa[AV.avoids] using ha
   subst e;cases h with
   | @mp _ cb hj=>
    obtain⟨o,ho,hB⟩:=hS.blk b' _ hb;rw[hj] at ho;cases ho;obtain⟨es,cl,g1,g2⟩:=hB;refine .fm cb cl es (hS.lt b' cb hj) (fun hmem=> ?_) g1 ⟨g2.stamped,g2.keys,g2.kind,fun e hm k hk=>(g2.data.rel e hm k hk).unset⟩;obtain⟨i,hi,he⟩:=List.mem_iff_getElem.1 hmem;rw[List.getElem_set] at he;split at he
    ·cases he
    ·rename_i hne;have:j[i]? =some (some cb):=by rw[List.getElem?_eq_getElem (by simpa using hi)];rw[he]
     exact hne (hS.inj _ _ _ hj this)
  ·exact .undef _
theorem fmM_get: ∀{t:List (Nat×AV)} {k:Nat} {av:AV},get (fmM b d ks f t) k=some av->∃x,get t k=some x/\av=fmT b d ks f x
 |[],k,av,h=>by simp[fmM,get] at h
 |(q,u)::t,k,av,h=>by
  simp only[fmM,get] at h⊢;by_cases hq:q=k
  ·simp[hq] at h⊢;exact h.symm
  ·simp only[zC hq,Bool.false_eq_true,if_false] at h⊢;exact fmM_get h
theorem fmM_mem: ∀{t:List (Nat×AV)} {k:Nat} {av:AV},(k,av)∈fmM b d ks f t->∃x,(k,x)∈t/\av=fmT b d ks f x
 |[],k,av,h=>by simp[fmM] at h
 |(q,u)::t,k,av,h=>by
  simp only[fmM] at h;rcases List.mem_cons.1 h with h|h
  ·cases h;exact⟨u,by simp,rfl⟩
  ·obtain⟨x,h1,h2⟩:=fmM_mem h;exact⟨x,List.mem_cons_of_mem _ h1,h2⟩
theorem RB.fm(hS:aT w j σ)(hb:σ[b]? =some (.mp d ks fun k=> .d (f k))){x:aG}{o:Option Nat}(h:RB w j x o):RB w (j.set b none) (fmB b d ks f x) o:=by
 cases x with
 |dead=>simp[fmB,RB]
 |loc c=>
  obtain⟨h1,h2,h3,m,h4⟩:=h;exact⟨h1,h2,fun hm=>h3 (dL hm),m,h4⟩
 |tab c vs=>
  obtain⟨h1,h2,h3,e,h4,h5⟩:=h;exact⟨h1,h2,fun hm=>h3 (dL hm),e,h4,h5⟩
 |arr sz0 n0 row0=>
  cases o with
  |none=>exact h
  |some cb=>
   obtain⟨C,e,h1,h2,h3⟩:=h;exact⟨C,e,h1,h2,fun i hi=>⟨(h3 i hi).1,fun k hk=>((h3 i hi).2 k hk).unset⟩⟩
 |lp L st pd=>
  cases o with
  |none=>exact h
  |some cb=>
   obtain⟨r,h1,h2,h3,h4⟩:=h;refine⟨r,h1,h2,h3,fun k av hk=> ?_⟩;obtain⟨x,hx,rfl⟩:=fmM_mem hk;exact⟨(h4 k x hx).1,(h4 k x hx).2.fmT hS hb⟩
 |mp d ks f=>
  cases o with
  |none=>exact h
  |some cb=>
   obtain⟨es,cl,h1,h2⟩:=h;exact⟨es,cl,h1,h2.unset⟩
 |TT d ks f κ q=>
  cases o with
  |none=>exact h
  |some cb=>
   obtain⟨es,cl,h1,h2,hx⟩:=h;exact⟨es,cl,h1,h2.unset,hx⟩
 |it left cur f=>
  cases o with
  |none=>exact h
  |some cb=>
   obtain⟨mb,es,cl,seen,h1,h2⟩:=h;exact⟨mb,es,cl,seen,h1,h2.unset⟩
 |var cs=>
  cases o with
  |none=>exact h
  |some cb=>
   obtain⟨C,e,h1,h2,h3⟩:=h;refine⟨C,e,h1,by simpa using h2,fun k hk=> ?_⟩;simp only[List.length_map] at hk;have e1:(cs.map (fmT b d ks f)).getD k .undef=fmT b d ks f (cs.getD k .undef):=by
    simp[List.getD_eq_getElem?_getD,hk]
   rw[e1];exact(h3 k hk).fmT hS hb
theorem aT.fm(hS:aT w j σ)(hb:σ[b]? =some (.mp d ks fun k=> .d (f k))):aT w (j.set b none) (fmS b d ks f σ) where
 len:=by simp[fmS,hS.len]
 lt c cb h:=by
  rw[List.getElem?_set] at h;split at h
  ·split at h<;>simp at h
  ·exact hS.lt c cb h
 inj c c' cb h h':=by
  rw[List.getElem?_set] at h h';split at h
  ·split at h<;>simp at h
  ·split at h'
   ·split at h'<;>simp at h'
   ·exact hS.inj c c' cb h h'
 blk c x h:=by
  unfold fmS at h;rw[List.getElem?_set] at h;by_cases hc:b=c
  ·subst hc;simp only[if_true,List.length_map] at h;split at h
   ·rename_i hlt;simp at h;subst h;exact⟨none,by rw[List.getElem?_set];simp[hS.len,hlt],trivial⟩
   ·simp at h
  ·simp only[hc,if_false,List.getElem?_map,Option.map_eq_some_iff] at h;obtain⟨y,hy,rfl⟩:=h;obtain⟨o,ho,hB⟩:=hS.blk c y hy;exact⟨o,by rw[List.getElem?_set];simp[hc,ho],hB.fm hS hb⟩
end
theorem awp_fm{P:Program}{c:Code}{Q:Exit->St->Prop}{N:Nat}{t t':List (Nat×AV)}{σ σ':List aG}{mv:List Nat}(b:Nat){d:Bool}{ks:List Key}{f:Key->D}(hb:σ[b]? =some (.mp d ks fun k=> .d (f k)))(ht:fmM b d ks f t=t')(hσ:fmS b d ks f σ=σ')
  (h:fA P c Q ⟨N,t',σ',b::mv⟩):fA P c Q ⟨N,t,σ,mv⟩:=by
 refine jS (s':=⟨N,t',σ',b::mv⟩) ?_ h;intro j0 j a w hr;subst ht hσ;have he:Ev j w (j.set b none) w:=⟨Nat.le_refl _,fun _ _ _=>rfl,fun c _ hm=>dL hm,fun _ _=>rfl,fun _ _=>rfl,rfl,rfl,rfl,fun _ r h=>⟨r,h⟩⟩;refine⟨j.set b none,⟨hr.defers.mono he,hr.jY,hr.size,fun k av hk=> ?_,hr.dA.fm hb,by simpa using hr.len0,fun c hc hn=> ?_⟩,he⟩
 ·obtain⟨x,hx,rfl⟩:=fmM_get hk;exact⟨(hr.tmp k x hx).1,(hr.tmp k x hx).2.fmT hr.dA hb⟩
 ·simp at hn;rw[List.getElem?_set];rw[if_neg (fun e=>hn.1 e.symm)];exact hr.ag c hc hn.2
theorem fmM_id{b:Nat}{d:Bool}{ks:List Key}{f:Key->D} : ∀{t:List (Nat×AV)},(∀k av,(k,av)∈t->av.avoids [b]=true)->fmM b d ks f t=t
 |[],_=>rfl
 |(q,u)::t,h=>by
  simp only[fmM];rw[fmM_id fun k av hk=>h k av (List.mem_cons_of_mem _ hk)];simp[fmT,h q u (by simp)]
theorem lS.fm{σ:List aG}(h:lS σ)(k:Nat)(d:Bool)(ks:List Key)(f:Key->D):σ.map (fmB (σ.length+k) d ks f)=σ:=by
 have hs:=h.one k;refine(List.map_congr_left fun x hx=> ?_).trans (List.map_id _);have hx':bQ [σ.length+k] x=x:=by
  obtain⟨i,hi,he⟩:=List.mem_iff_getElem.1 hx;have:=congrArg (fun l=>l[i]?) hs;simp[hi] at this;rw[←he];exact this
 cases x with
 |var cs=>
  simp only[fmB,id,aG.var.injEq];simp only[bQ,aG.var.injEq] at hx';refine(List.map_congr_left fun c hc=> ?_).trans (List.map_id _);have:c.avoids [σ.length+k]=true:=by
   obtain⟨i,hi,he⟩:=List.mem_iff_getElem.1 hc;have:=congrArg (fun l=>l[i]?) hx';simp[hi] at this;rw[←he];by_cases ha:(cs[i]).avoids [σ.length+k]=true
   ·exact ha
   ·have:=this (by simpa using ha);rw[←this];rfl
  simp[fmT,this]
 |lp L st pd=>
  simp only[bQ,aG.lp.injEq] at hx';have h2:cZ [σ.length+k] L.t=L.t:=congrArg jJ.t hx'.1;simp only[fmB,id];rw[fmM_id (DY h2)]
 |arr a c d=>rfl
 |dead=>rfl
 |loc c=>rfl
 |tab c vs=>rfl
 |mp d ks f=>rfl
 |TT d ks f κ q=>rfl
 |it left cur f=>rfl
theorem lS.fm0{σ:List aG}(h:lS σ)(d:Bool)(ks:List Key)(f:Key->D):σ.map (fmB σ.length d ks f)=σ:=h.fm 0 d ks f
attribute [go_sem] fmM fmS fmB fmT
end Go.aU
