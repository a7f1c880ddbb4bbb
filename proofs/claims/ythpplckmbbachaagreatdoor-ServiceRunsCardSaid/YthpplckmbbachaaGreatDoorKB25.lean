/- Lemmas, no conditions. -/
import Derived.Test.YthpplckmbbachaaGreatDoorKB18
set_option linter.unusedVariables false
set_option linter.unusedSimpArgs false
set_option maxHeartbeats 1000000
set_option maxRecDepth 100000
namespace Go.aI
def Qk(b:Nat)(d:Bool)(ks:List Key)(f:Key->D)(x:AV):AV:=if x.avoids [b] then x else match x with
 | .mp _=> .fm d ks f
 |_=> .undef
def VN(b:Nat)(d:Bool)(ks:List Key)(f:Key->D):List (Nat×AV)->List (Nat×AV)
 |[]=>[]
 |(k,v)::t=>(k,Qk b d ks f v)::VN b d ks f t
def fmB(b:Nat)(d:Bool)(ks:List Key)(f:Key->D):aZ->aZ
 | .var cs=> .var (cs.map (Qk b d ks f))
 | .lp L st pd=> .lp { L with t:=VN b d ks f L.t } st pd
 |x=>x
def fmS(b:Nat)(d:Bool)(ks:List Key)(f:Key->D)(σ:List aZ):List aZ:=(σ.map (fmB b d ks f)).set b .dead
section
variable {w : World} {j : Js} {σ : List aZ} {b : Nat} {d : Bool} {ks : List Key} {f : Key -> D}
theorem R.Qk(hS:aQ w j σ)(hb:σ[b]? =some (.mp d ks fun k=> .d (f k))){x v}(h:R w j x v):R w (j.set b none) (Qk b d ks f x) v:=by
 unfold aI.Qk;split
 ·rename_i ha;exact h.unset ha
 ·rename_i ha;split
  ·rename_i b';have e:b'=b:=fN;subst e;cases h with
   | @mp _ cb hj=>
    obtain⟨o,ho,hB⟩:=hS.blk b' _ hb;rw[hj] at ho;cases ho;obtain⟨es,cl,g1,g2⟩:=hB;refine .fm cb cl es (hS.lt b' cb hj) (fun hmem=> ?_) g1 ⟨g2.stamped,g2.keys,g2.kind,fun e hm k hk=>(g2.data.rel e hm k hk).unset⟩;obtain⟨i,hi,he⟩:=List.mem_iff_getElem.1 hmem;rw[List.getElem_set] at he;split at he
    ·cases he
    ·rename_i hne;have:j[i]? =some (some cb):=ai;exact hne (hS.inj _ _ _ hj this)
  ·exact .undef _
theorem Sz: ∀{t k av},get (VN b d ks f t) k=some av->∃x,get t k=some x/\av=Qk b d ks f x
 |[],k,av,h=>by grind [VN,get]
 |(q,u)::t,k,av,h=>by
  simp only[VN,get] at h⊢;by_cases hq:q=k
  ·simp_all
  ·simp only[sZ hq,Bool.false_eq_true,if_false] at h⊢;exact Sz h
theorem Sy: ∀{t k av},(k,av)∈VN b d ks f t->∃x,(k,x)∈t/\av=Qk b d ks f x
 |[],k,av,h=>by grind [VN]
 |(q,u)::t,k,av,h=>by
  simp only[VN] at h;rcases List.mem_cons.1 h with h|h
  ·grind
  ·obtain⟨x,h1,h2⟩:=Sy h;grind
theorem RB.fm(hS:aQ w j σ)(hb:σ[b]? =some (.mp d ks fun k=> .d (f k))){x o}(h:RB w j x o):RB w (j.set b none) (fmB b d ks f x) o:=by
 cases x with
 |dead=>simp[fmB,RB]
 |loc c=>
  obtain⟨h1,h2,h3,m,h4⟩:=h;exact⟨h1,h2,fun hm=>h3 (cA hm),m,h4⟩
 |tab c vs=>
  obtain⟨h1,h2,h3,e,h4,h5⟩:=h;exact⟨h1,h2,fun hm=>h3 (cA hm),e,h4,h5⟩
 |arr sz0 n0 row0=>
  cases o with
  |none=>exact h
  |some cb=>
   obtain⟨C,e,h1,h2,h3⟩:=h;exact⟨C,e,h1,h2,fun i hi=>⟨(h3 i hi).1,fun k hk=>((h3 i hi).2 k hk).unset⟩⟩
 |lp L st pd=>
  cases o with
  |none=>exact h
  |some cb=>
   obtain⟨r,h1,h2,h3,h4⟩:=h;refine⟨r,h1,h2,h3,fun k av hk=> ?_⟩;obtain⟨x,hx,rfl⟩:=Sy hk;exact⟨(h4 k x hx).1,(h4 k x hx).2.Qk hS hb⟩
 |mp d ks f=>
  cases o with
  |none=>exact h
  |some cb=>
   obtain⟨es,cl,h1,h2⟩:=h;exact⟨es,cl,h1,h2.unset⟩
 |GK d ks f κ q=>
  cases o with
  |none=>exact h
  |some cb=>
   obtain⟨es,cl,h1,h2,hx⟩:=h;exact⟨es,cl,h1,h2.unset,hx⟩
 |it left cur f=>
  cases o with
  |none=>exact h
  |some cb=>
   obtain⟨mb,es,cl,seen,h1,h2⟩:=h;exact⟨mb,es,cl,seen,h1,h2.unset⟩
 |var cs=>
  cases o with
  |none=>exact h
  |some cb=>
   obtain⟨C,e,h1,h2,h3⟩:=h;refine⟨C,e,h1,ai,fun k hk=> ?_⟩;simp only[List.length_map] at hk;have e1:(cs.map (Qk b d ks f)).getD k .undef=Qk b d ks f (cs.getD k .undef):=by
    grind
   rw[e1];exact(h3 k hk).Qk hS hb
theorem aQ.fm(hS:aQ w j σ)(hb:σ[b]? =some (.mp d ks fun k=> .d (f k))):aQ w (j.set b none) (fmS b d ks f σ) where
 len:=by simp[fmS,hS.len]
 lt c cb h:=by
  rw[List.getElem?_set] at h;split at h
  ·all_goals grind
  ·exact hS.lt c cb h
 inj c c' cb h h':=by
  rw[List.getElem?_set] at h h';split at h
  ·all_goals grind
  ·split at h'
   ·all_goals grind
   ·exact hS.inj c c' cb h h'
 blk c x h:=by
  unfold fmS at h;rw[List.getElem?_set] at h;by_cases hc:b=c
  ·subst hc;simp only[if_true,List.length_map] at h;split at h
   ·rename_i hlt;simp at h;subst h;exact⟨none,by rw[List.getElem?_set];simp[hS.len,hlt],trivial⟩
   grind
  ·simp only[hc,if_false,List.getElem?_map,Option.map_eq_some_iff] at h;obtain⟨y,hy,rfl⟩:=h;obtain⟨o,ho,hB⟩:=hS.blk c y hy;exact⟨o,ai,hB.fm hS hb⟩
end
theorem Y0{P c Q N t t' σ σ' mv}(b){d ks f}(hb:σ[b]? =some (.mp d ks fun k=> .d (f k)))(ht:VN b d ks f t=t')(hσ:fmS b d ks f σ=σ')
  (h:cV P c Q ⟨N,t',σ',b::mv⟩):cV P c Q ⟨N,t,σ,mv⟩:=by
 refine fg (s':=⟨N,t',σ',b::mv⟩) ?_ h;intro j0 j a w hr;subst ht hσ;have he:Ev j w (j.set b none) w:=⟨Nat.le_refl _,fun _ _ _=>rfl,fun c _ hm=>cA hm,fun _ _=>rfl,fun _ _=>rfl,rfl,rfl,rfl,fun _ r h=>⟨r,h⟩⟩;refine⟨j.set b none,⟨hr.defers.mono he,hr.fC,hr.size,fun k av hk=> ?_,hr.cm.fm hb,by simpa using hr.len0,fun c hc hn=> ?_⟩,he⟩
 ·obtain⟨x,hx,rfl⟩:=Sz hk;exact⟨(hr.tmp k x hx).1,(hr.tmp k x hx).2.Qk hr.cm hb⟩
 ·simp at hn;rw[List.getElem?_set];rw[if_neg (fun e=>hn.1 e.symm)];exact hr.ag c hc hn.2
theorem Yb{b d ks f} : ∀{t},(∀k av,(k,av)∈t->av.avoids [b]=true)->VN b d ks f t=t
 |[],_=>rfl
 |(q,u)::t,h=>by
  simp only[VN];rw[Yb fun k av hk=>h k av (List.mem_cons_of_mem _ hk)];simp[Qk,h q u an]
theorem gJ.fm{σ}(h:gJ σ)(k d ks f):σ.map (fmB (σ.length+k) d ks f)=σ:=by
 have hs:=h.one k;refine(List.map_congr_left fun x hx=> ?_).trans (List.map_id _);have hx':bP [σ.length+k] x=x:=by
  obtain⟨i,hi,he⟩:=List.mem_iff_getElem.1 hx;grind
 cases x with
 |var cs=>
  simp only[fmB,id,aZ.var.injEq];simp only[bP,aZ.var.injEq] at hx';refine(List.map_congr_left fun c hc=> ?_).trans (List.map_id _);have:c.avoids [σ.length+k]=true:=by
   obtain⟨i,hi,he⟩:=List.mem_iff_getElem.1 hc;have:=congrArg (fun l=>l[i]?) hx';simp[hi] at this;rw[←he];by_cases ha:(cs[i]).avoids [σ.length+k]=true
   ·exact ha
   ·have:=this ai;rw[←this];rfl
  simp[Qk,this]
 |lp L st pd=>
  simp only[bP,aZ.lp.injEq] at hx';have h2:cq [σ.length+k] L.t=L.t:=congrArg gH.t hx'.1;simp only[fmB,id];rw[Yb (tf h2)]
 |arr a c d=>rfl
 |dead=>rfl
 |loc c=>rfl
 |tab c vs=>rfl
 |mp d ks f=>rfl
 |GK d ks f κ q=>rfl
 |it left cur f=>rfl
theorem gJ.fm0{σ}(h:gJ σ)(d ks f):σ.map (fmB σ.length d ks f)=σ:=h.fm 0 d ks f
attribute [go_sem] VN fmS fmB Qk
end Go.aI
namespace Go.Proofs.YthpplckmbbachaaGreatDoor
open Go.aI Go.bI Go.Proofs.Tryz
noncomputable def rh(n:Nat)(g:Nat->Row)(u:Int):Nat×Int:=if bC n g≠0 then(0,1) else if dL n g u<0 then(0,7) else(dt n g u,0)
noncomputable def J2(n:Nat)(g:Nat->Row)(p:u5)(u d:Int):List Ground×Int:=if jy n g p 1 u d≠0 then([],jy n g p 1 u d) else(dN n g p u d,0)
theorem Li{n g}(h:bC n g=0){u}(hf:0<=dL n g u):1<=u:=by
 obtain⟨h1,h2,h3⟩:=nL hf;have:=(kO h).1.ok _ h1;grind [rowOk,kZ]
theorem pt(σ c n g p r u d)(hn:n<1000000000)(hp:dT p)(hσ:σ[1]? =some (.loc 1)):ak prog 379 [.d (SL c 3 Row.enc n g),.agg (p.enc.map .d),.d (I r),.d (I u),.d (I d)] σ (.cj [.agg ((fG n g p r u d).1.enc.map .d),.d (I (fG n g p r u d).2)]):=by
 refine ak.bt func379 ?_;refine az.mk (Cm _ c n g p r u d hn hp (ay hσ)) (gc [0,2,3,4,6,10,12] ?_ ?_)<;>intro d0
 ·have hz:fG n g p r u d=(Acc.zero,jy n g p r u d):=by grind [fG]
  refine wA ?_;rw[hz];simp[go_sem,Acc.zero]
 ·have hz:fG n g p r u d=(QA n g p r u d,0):=by grind [fG]
  simp[go_sem];refine az.mk (zo _ c n g p r u d hp (F3 d0).1 (ay hσ)) (sm ?_);exact sy hz
end Go.Proofs.YthpplckmbbachaaGreatDoor
